/- What the statement QuantParsesUptoCardSaid rests on, part 7 of 7: walks and plain laws; what of the printer's words it leans on. -/
import Derived.Test.YtejgbdclhlolkaaGreatDoorRows
import Derived.Test.YtejgbdclhlolkaaGreatDoorCards
import Derived.Test.YtejgbdclhlolkaaGreatDoorTie
import Derived.Test.YtejgbdclhlolkaaGreatDoorMQPa3
import Derived.Test.YtejgbdclhlolkaaGreatDoorMQPa4
import Derived.Test.YtejgbdclhlolkaaGreatDoorMQPa5
import Derived.Test.YtejgbdclhlolkaaGreatDoorMQPa6
import Derived.Lib.Hide
import Derived.Laws.BitsLemmas
import Derived.Lib.ItoaNum
import Derived.BigQuiet
import Derived.LaidSub
import Derived.Lib.LaidTab
import Derived.ChangeSame
import Derived.WalkKit
import Derived.ProofKit
import Derived.OpenShut
import Derived.ShutString
import Derived.ChangeOld
import Derived.Below
import Derived.SizedLaws
import Derived.Deep.DeepHandedRow
import Derived.LaidMore
namespace Go.Proofs.YtejgbdclhlolkaaGreatDoor.Q
open Go.RowKit Go.Proofs.YtejgbdclhlolkaaGreatDoorW.PrintWords Go.Proofs.YtejgbdclhlolkaaGreatDoorW.PrintLast Go.Proofs.YtejgbdclhlolkaaGreatDoorW.PrintMore
attribute [local go_sem] max2_int min2_int max_two min_two max_three min_three max_four min_four   -- for this text's walks alone
set_option linter.unusedVariables false
set_option linter.unusedSimpArgs false
mutual
def bursarref03_Parse.l0 : Nat → ByteArray → Int → Int → List Int → Int → Option (Int × Int)
|0,_,_,_,_,_ => none
|k + 1,x0,x4,x5,x6,x7 => if x4 < (x0.size : Int) then (if 0 ≤ x4 then ((bursarref03_digit.f (bt x0 x4)).bind fun t289 => (if t289 = true then (bursarref03_Parse.j1 k x0 x4 x5 x6 x7 true) else (bursarref03_Parse.j1 k x0 x4 x5 x6 x7 ((bt x0 x4) == 46)))) else (none)) else (bursarref03_Parse.j1 k x0 x4 x5 x6 x7 false)
def bursarref03_Parse.j1 : Nat → ByteArray → Int → Int → List Int → Int → Bool → Option (Int × Int)
|0,_,_,_,_,_,_ => none
|k + 1,x0,x4,x5,x6,x7,x25 => if x25 = true then (if 0 ≤ x4 then (if x4 < (x0.size : Int) then (if (bt x0 x4) = 46 then (if x4 = 0 then (some (0,30)) else (if (wrap64 (x5 + 1)) > 1 then (some (0,30)) else (if (wrap64 (x4 + 1)) ≥ (x0.size : Int) then (some (0,30)) else (if 0 ≤ (wrap64 (x4 + 1)) then (if (wrap64 (x4 + 1)) < (x0.size : Int) then ((bursarref03_digit.f (bt x0 (wrap64 (x4 + 1)))).bind fun t290 => (if t290 = true then (bursarref03_Parse.l0 k x0 (wrap64 (x4 + 1)) (wrap64 (x5 + 1)) x6 x7) else (some (0,30)))) else (none)) else (none))))) else (if x6.length < 17592186044416 then (bursarref03_Parse.l0 k x0 (wrap64 (x4 + 1)) x5 (x6 ++ [((bt x0 x4) - 48) % 256]) (wrap64 (x7 + x5))) else (none))) else (none)) else (none)) else (if (x6.length : Int) < 1 then (bursarref03_Parse.j2 k x0 x4 x6 x7 true) else (bursarref03_Parse.j2 k x0 x4 x6 x7 (decide ((x6.length : Int) > 19))))
def bursarref03_Parse.j2 : Nat → ByteArray → Int → List Int → Int → Bool → Option (Int × Int)
|0,_,_,_,_,_ => none
|k + 1,x0,x4,x6,x7,x73 => if x73 = true then (some (0,30)) else ((bursarref03_suffixes.f k).bind fun t294 => (bursarref03_Parse.l1 k x0 x4 x6 x7 t294 0))
def bursarref03_Parse.l1 : Nat → ByteArray → Int → List Int → Int → List (S87) → Int → Option (Int × Int)
|0,_,_,_,_,_,_ => none
|k + 1,x0,x4,x6,x7,x8,x9 => if x9 < (x8.length : Int) then (if 0 ≤ x9 then (if 0 ≤ x4 then (if x4 ≤ (x0.size : Int) then (if ((rd_T87 x8 x9).f0).toList = (x0.extract (x4 : Int).toNat x0.size).toList then ((bursarref03_parsed.f k x6 x7 ((rd_T87 x8 x9).f1.f0)).bind fun bt299 => (some (bt299.1,bt299.2))) else (bursarref03_Parse.l1 k x0 x4 x6 x7 x8 (wrap64 (x9 + 1)))) else (none)) else (none)) else (none)) else (some (0,30))
end
def bursarref03_Parse.f (k : Nat) (a0 : ByteArray) : Option (Int × Int) := bursarref03_Parse.l0 k a0 0 0 ([] : List Int) 0
theorem bursarref03_Parse.mono_l : ∀ k, (∀ y0 y1 y2 y3 y4, LeO (bursarref03_Parse.l0 k y0 y1 y2 y3 y4) (bursarref03_Parse.l0 (k + 1) y0 y1 y2 y3 y4)) ∧ (∀ y0 y1 y2 y3 y4 y5, LeO (bursarref03_Parse.j1 k y0 y1 y2 y3 y4 y5) (bursarref03_Parse.j1 (k + 1) y0 y1 y2 y3 y4 y5)) ∧ (∀ y0 y1 y2 y3 y4, LeO (bursarref03_Parse.j2 k y0 y1 y2 y3 y4) (bursarref03_Parse.j2 (k + 1) y0 y1 y2 y3 y4)) ∧ (∀ y0 y1 y2 y3 y4 y5, LeO (bursarref03_Parse.l1 k y0 y1 y2 y3 y4 y5) (bursarref03_Parse.l1 (k + 1) y0 y1 y2 y3 y4 y5))
|0 => ⟨fun _ _ _ _ _ r h => by simp [bursarref03_Parse.l0] at h,fun _ _ _ _ _ _ r h => by simp [bursarref03_Parse.j1] at h,fun _ _ _ _ _ r h => by simp [bursarref03_Parse.j2] at h,fun _ _ _ _ _ _ r h => by simp [bursarref03_Parse.l1] at h⟩
|k + 1 => by
  obtain ⟨ih0,ih1,ih2,ih3⟩:=bursarref03_Parse.mono_l k
  refine ⟨?_,?_,?_,?_⟩
  ·intro y0 y1 y2 y3 y4
   unfold bursarref03_Parse.l0
   repeat' first
  |(with_reducible exact ih0 _ _ _ _ _)
  |(with_reducible exact ih1 _ _ _ _ _ _)
  |(with_reducible exact ih2 _ _ _ _ _)
  |(with_reducible exact ih3 _ _ _ _ _ _)
  |(with_reducible exact bursarref03_parsed.mono _ _ _ _)
  |(with_reducible exact bursarref03_suffixes.mono _)
  |(with_reducible exact LeO.refl _)
  |(with_reducible exact LeO.none _)
  |(with_reducible refine LeO.ite ?_ ?_)
  |(with_reducible refine LeO.bind ?_ (fun _ => ?_))
  |exact ih0 _ _ _ _ _
  |exact ih1 _ _ _ _ _ _
  |exact ih2 _ _ _ _ _
  |exact ih3 _ _ _ _ _ _
  |exact bursarref03_parsed.mono _ _ _ _
  |exact bursarref03_suffixes.mono _
  |exact LeO.none _
  |refine LeO.ite ?_ ?_
  |refine LeO.bind ?_ (fun _ => ?_)
  ·intro y0 y1 y2 y3 y4 y5
   unfold bursarref03_Parse.j1
   repeat' first
  |(with_reducible exact ih0 _ _ _ _ _)
  |(with_reducible exact ih1 _ _ _ _ _ _)
  |(with_reducible exact ih2 _ _ _ _ _)
  |(with_reducible exact ih3 _ _ _ _ _ _)
  |(with_reducible exact bursarref03_parsed.mono _ _ _ _)
  |(with_reducible exact bursarref03_suffixes.mono _)
  |(with_reducible exact LeO.refl _)
  |(with_reducible exact LeO.none _)
  |(with_reducible refine LeO.ite ?_ ?_)
  |(with_reducible refine LeO.bind ?_ (fun _ => ?_))
  |exact ih0 _ _ _ _ _
  |exact ih1 _ _ _ _ _ _
  |exact ih2 _ _ _ _ _
  |exact ih3 _ _ _ _ _ _
  |exact bursarref03_parsed.mono _ _ _ _
  |exact bursarref03_suffixes.mono _
  |exact LeO.none _
  |refine LeO.ite ?_ ?_
  |refine LeO.bind ?_ (fun _ => ?_)
  ·intro y0 y1 y2 y3 y4
   unfold bursarref03_Parse.j2
   repeat' first
  |(with_reducible exact ih0 _ _ _ _ _)
  |(with_reducible exact ih1 _ _ _ _ _ _)
  |(with_reducible exact ih2 _ _ _ _ _)
  |(with_reducible exact ih3 _ _ _ _ _ _)
  |(with_reducible exact bursarref03_parsed.mono _ _ _ _)
  |(with_reducible exact bursarref03_suffixes.mono _)
  |(with_reducible exact LeO.refl _)
  |(with_reducible exact LeO.none _)
  |(with_reducible refine LeO.ite ?_ ?_)
  |(with_reducible refine LeO.bind ?_ (fun _ => ?_))
  |exact ih0 _ _ _ _ _
  |exact ih1 _ _ _ _ _ _
  |exact ih2 _ _ _ _ _
  |exact ih3 _ _ _ _ _ _
  |exact bursarref03_parsed.mono _ _ _ _
  |exact bursarref03_suffixes.mono _
  |exact LeO.none _
  |refine LeO.ite ?_ ?_
  |refine LeO.bind ?_ (fun _ => ?_)
  ·intro y0 y1 y2 y3 y4 y5
   unfold bursarref03_Parse.l1
   repeat' first
  |(with_reducible exact ih0 _ _ _ _ _)
  |(with_reducible exact ih1 _ _ _ _ _ _)
  |(with_reducible exact ih2 _ _ _ _ _)
  |(with_reducible exact ih3 _ _ _ _ _ _)
  |(with_reducible exact bursarref03_parsed.mono _ _ _ _)
  |(with_reducible exact bursarref03_suffixes.mono _)
  |(with_reducible exact LeO.refl _)
  |(with_reducible exact LeO.none _)
  |(with_reducible refine LeO.ite ?_ ?_)
  |(with_reducible refine LeO.bind ?_ (fun _ => ?_))
  |exact ih0 _ _ _ _ _
  |exact ih1 _ _ _ _ _ _
  |exact ih2 _ _ _ _ _
  |exact ih3 _ _ _ _ _ _
  |exact bursarref03_parsed.mono _ _ _ _
  |exact bursarref03_suffixes.mono _
  |exact LeO.none _
  |refine LeO.ite ?_ ?_
  |refine LeO.bind ?_ (fun _ => ?_)
theorem bursarref03_Parse.mono : ∀ a0 k, LeO (bursarref03_Parse.f k a0) (bursarref03_Parse.f (k + 1) a0) := by
 intro a0 k
 obtain ⟨ih0,ih1,ih2,ih3⟩:=bursarref03_Parse.mono_l k
 unfold bursarref03_Parse.f
 repeat' first
  |(with_reducible exact ih0 _ _ _ _ _)
  |(with_reducible exact ih1 _ _ _ _ _ _)
  |(with_reducible exact ih2 _ _ _ _ _)
  |(with_reducible exact ih3 _ _ _ _ _ _)
  |(with_reducible exact bursarref03_parsed.mono _ _ _ _)
  |(with_reducible exact bursarref03_suffixes.mono _)
  |(with_reducible exact LeO.refl _)
  |(with_reducible exact LeO.none _)
  |(with_reducible refine LeO.ite ?_ ?_)
  |(with_reducible refine LeO.bind ?_ (fun _ => ?_))
  |exact ih0 _ _ _ _ _
  |exact ih1 _ _ _ _ _ _
  |exact ih2 _ _ _ _ _
  |exact ih3 _ _ _ _ _ _
  |exact bursarref03_parsed.mono _ _ _ _
  |exact bursarref03_suffixes.mono _
  |exact LeO.none _
  |refine LeO.ite ?_ ?_
  |refine LeO.bind ?_ (fun _ => ?_)
set_option maxHeartbeats 8000000 in
set_option maxRecDepth 100000 in
theorem bursarref03_Parse.calls (k : Nat) (a0 : ByteArray) (r1 : Int) (r2 : Int) (w : World) (h : bursarref03_Parse.f k a0 = some (r1, r2)) :
  Calls Tryz.prog 18 #[.string a0] w fun e w' => e = .returned (.tuple #[.int .i64 r1,.int .i64 r2]) ∧ Below w.heap.size w w':=by
 have hu85:=Tryz.underlying85
 have HB:=Aside0.mk (Below.refl w.heap.size w)
 have H : (bursarref03_Parse.l0 k a0 0 0 ([] : List Int) 0) = some (r1,r2):=h
 clear h
 have H':=Aside0.mk H
 clear H
 go_enter Tryz.func18,Tryz.ntmps18
 go_wp2
 repeat (go_quiet (fail);try go_wp2)
 go_loopg [4,5,6,7] k (fun kq v4 v5 v6 v7 w' => ∃ (x4_1 : Int) (x5_1 : Int) (x6_1 : List Int) (x7_1 : Int),v4 = .int .i64 x4_1 ∧ v5 = .int .i64 x5_1 ∧ v7 = .int .i64 x7_1 ∧ Aside0 (bursarref03_Parse.l0 kq a0 x4_1 x5_1 x6_1 x7_1 = some (r1,r2)) ∧ Aside0 (kq ≤ k) ∧ Aside0 (Kd.R (Kd.int .i64) 3 w' w.heap.size (fun _ => True) v6 x6_1) ∧ Aside0 (Below w.heap.size w w'))
 case atStart => exact ⟨(0),(0),(([] : List Int)),(0),(by first|rfl|(simp;done)|(simp [*];done)|(simp;rw [Bool.eq_iff_iff];simp;done)|(rw [Bool.eq_iff_iff];simp;done)),(by first|rfl|(simp;done)|(simp [*];done)|(simp;rw [Bool.eq_iff_iff];simp;done)|(rw [Bool.eq_iff_iff];simp;done)),(by first|rfl|(simp;done)|(simp [*];done)|(simp;rw [Bool.eq_iff_iff];simp;done)|(rw [Bool.eq_iff_iff];simp;done)),H',⟨Nat.le_refl _⟩,⟨by first|exact Kd.R_nil _ _ _ _ _|exact Kd.N_nil _ _ _ _ _|exact Kd.V_nil _ _ _ _ _|exact Kd.Q_nil _ _ _ _ _|exact Kd.S_nil _ _ _ _ _⟩,⟨by repeat (first|(with_reducible first|exact HB.out|apply below_alloc|apply pw_below_drewN|apply below_drew1)|exact HB.out)⟩⟩
 case round =>
  clear H';(try clear c1)
  obtain ⟨x4_1,x5_1,x6_1,x7_1,rfl,rfl,rfl,HA,HK1,HO_6,HB⟩:=hrel
  cases gk with
 |zero => exact absurd HA.out (by simp [bursarref03_Parse.l0])
 |succ k1 =>
   have H:=HA.out
   clear HA
   simp only [bursarref03_Parse.l0] at H
   have HC2:=Aside0.mk H
   clear H
   go_upto_region 5 with (fail)
   repeat (go_quiet (fail);go_upto_region 5 with (fail))
   go_cut [25] (fun v25 wc => ∃ (kq : Nat) (x25_1 : Bool),v25 = .bool x25_1 ∧ Aside0 (bursarref03_Parse.j1 kq a0 x4_1 x5_1 x6_1 x7_1 x25_1 = some (r1,r2)) ∧ Aside0 (kq ≤ k1) ∧ Aside0 (Kd.R (Kd.int .i64) 3 wc w.heap.size (fun _ => True) u6 x6_1) ∧ Aside0 (Below w.heap.size w wc))
   case first =>
    have H:=HC2.out
    clear HC2
    by_cases c3 : x4_1 < (a0.size : Int)
    rotate_left
    ·rw [if_neg c3] at H
     have c3b0 : decide (x4_1 < (a0.size : Int)) = false:=decide_eq_false c3
     clear c3
     (first|rw [c3b0]|(simp only [i64_w,i32_w];rw [c3b0])|skip)
     have H':=Aside0.mk H
     clear H
     go_wp2
     repeat (go_quiet (fail);try go_wp2)
     go_meet
     case rel => exact ⟨_,(false),(by first|rfl|(simp;done)|(simp [*];done)|(simp;rw [Bool.eq_iff_iff];simp;done)|(rw [Bool.eq_iff_iff];simp;done)),H',⟨by have:=HK1.out;first|omega|exact Nat.le_refl _⟩,⟨by (with_reducible repeat (first|apply Kd.R_alloc|apply Kd.R_drewN|apply Kd.R_drew));exact HO_6.out⟩,⟨by repeat (first|(with_reducible first|exact HB.out|apply below_alloc|apply pw_below_drewN|apply below_drew1)|exact HB.out)⟩⟩
    rw [if_pos c3] at H
    have c3b0 : decide (x4_1 < (a0.size : Int)) = true:=decide_eq_true c3
    clear c3
    (first|rw [c3b0]|(simp only [i64_w,i32_w];rw [c3b0])|skip)
    by_cases c4 : 0 ≤ x4_1
    rotate_left
    ·rw [if_neg c4] at H
     exact absurd H (by simp)
    rw [if_pos c4] at H
    have c4b0 : decide (0 ≤ x4_1) = true:=decide_eq_true c4
    clear c4
    replace H:=Option.bind_eq_some_iff.mp H
    obtain ⟨t289,A60,H⟩:=H
    replace H : (if t289 = true then (bursarref03_Parse.j1 k1 a0 x4_1 x5_1 x6_1 x7_1 true) else (bursarref03_Parse.j1 k1 a0 x4_1 x5_1 x6_1 x7_1 ((bt a0 x4_1) == 46))) = some (r1,r2):=H
    have A6:=Aside0.mk A60
    clear A60
    by_cases c7 : t289 = true
    ·subst c7
     have H1 : (bursarref03_Parse.j1 k1 a0 x4_1 x5_1 x6_1 x7_1 true) = some (r1,r2):=by rw [if_pos rfl] at H;exact H
     clear H;have H:=H1;clear H1
     have H':=Aside0.mk H
     clear H
     have p5 : 0 ≤ (x4_1 : Int):=of_decide_eq_true (by first|(with_reducible assumption)|assumption)
     have q5 : x4_1 < (a0.size : Int):=of_decide_eq_true (by first|(with_reducible assumption)|assumption)
     have hx5:=bt_at a0 x4_1
     replace p5:=eq_true p5
     replace q5:=eq_true q5
     go_wp2_with (first|(go_at_call 58;(with_reducible refine (bursarref03_digit.calls (bt a0 x4_1) true _ A6.out).mono ?_);rintro e w' ⟨rfl,⟨nd,rfl⟩⟩;(try first|exact ⟨rfl,_,World.drewN_drewN _ _ _⟩|exact ⟨rfl,_,Eq.trans (World.drewN_drewN _ _ _) (congrArg (World.drewN _) (Nat.add_assoc _ _ _))⟩)))
     repeat (go_quiet (first|(go_at_call 58;(with_reducible refine (bursarref03_digit.calls (bt a0 x4_1) true _ A6.out).mono ?_);rintro e w' ⟨rfl,⟨nd,rfl⟩⟩;(try first|exact ⟨rfl,_,World.drewN_drewN _ _ _⟩|exact ⟨rfl,_,Eq.trans (World.drewN_drewN _ _ _) (congrArg (World.drewN _) (Nat.add_assoc _ _ _))⟩)));try go_wp2_with (first|(go_at_call 58;(with_reducible refine (bursarref03_digit.calls (bt a0 x4_1) true _ A6.out).mono ?_);rintro e w' ⟨rfl,⟨nd,rfl⟩⟩;(try first|exact ⟨rfl,_,World.drewN_drewN _ _ _⟩|exact ⟨rfl,_,Eq.trans (World.drewN_drewN _ _ _) (congrArg (World.drewN _) (Nat.add_assoc _ _ _))⟩))))
     go_meet
     case rel => exact ⟨_,(true),(by first|rfl|(simp;done)|(simp [*];done)|(simp;rw [Bool.eq_iff_iff];simp;done)|(rw [Bool.eq_iff_iff];simp;done)),H',⟨by have:=HK1.out;first|omega|exact Nat.le_refl _⟩,⟨by (with_reducible repeat (first|apply Kd.R_alloc|apply Kd.R_drewN|apply Kd.R_drew));exact HO_6.out⟩,⟨by repeat (first|(with_reducible first|exact HB.out|apply below_alloc|apply pw_below_drewN|apply below_drew1)|exact HB.out)⟩⟩
    replace c7:=Bool.eq_false_iff.mpr c7
    subst c7
    have H1 : (bursarref03_Parse.j1 k1 a0 x4_1 x5_1 x6_1 x7_1 ((bt a0 x4_1) == 46)) = some (r1,r2):=by rw [if_neg (show ¬ (false = true) by decide)] at H;exact H
    clear H;have H:=H1;clear H1
    have H':=Aside0.mk H
    clear H
    have p5 : 0 ≤ (x4_1 : Int):=of_decide_eq_true (by first|(with_reducible assumption)|assumption)
    have q5 : x4_1 < (a0.size : Int):=of_decide_eq_true (by first|(with_reducible assumption)|assumption)
    have hx5:=bt_at a0 x4_1
    replace p5:=eq_true p5
    replace q5:=eq_true q5
    go_wp2_with (first|(go_at_call 58;(with_reducible refine (bursarref03_digit.calls (bt a0 x4_1) false _ A6.out).mono ?_);rintro e w' ⟨rfl,⟨nd,rfl⟩⟩;(try first|exact ⟨rfl,_,World.drewN_drewN _ _ _⟩|exact ⟨rfl,_,Eq.trans (World.drewN_drewN _ _ _) (congrArg (World.drewN _) (Nat.add_assoc _ _ _))⟩);have p8 : 0 ≤ (x4_1 : Int):=of_decide_eq_true (by first|(with_reducible assumption)|assumption);have q8 : x4_1 < (a0.size : Int):=of_decide_eq_true (by first|(with_reducible assumption)|assumption);have hx8:=bt_at a0 x4_1;replace p8:=eq_true p8;replace q8:=eq_true q8))
    repeat (go_quiet (first|(go_at_call 58;(with_reducible refine (bursarref03_digit.calls (bt a0 x4_1) false _ A6.out).mono ?_);rintro e w' ⟨rfl,⟨nd,rfl⟩⟩;(try first|exact ⟨rfl,_,World.drewN_drewN _ _ _⟩|exact ⟨rfl,_,Eq.trans (World.drewN_drewN _ _ _) (congrArg (World.drewN _) (Nat.add_assoc _ _ _))⟩);have p8 : 0 ≤ (x4_1 : Int):=of_decide_eq_true (by first|(with_reducible assumption)|assumption);have q8 : x4_1 < (a0.size : Int):=of_decide_eq_true (by first|(with_reducible assumption)|assumption);have hx8:=bt_at a0 x4_1;replace p8:=eq_true p8;replace q8:=eq_true q8));try go_wp2_with (first|(go_at_call 58;(with_reducible refine (bursarref03_digit.calls (bt a0 x4_1) false _ A6.out).mono ?_);rintro e w' ⟨rfl,⟨nd,rfl⟩⟩;(try first|exact ⟨rfl,_,World.drewN_drewN _ _ _⟩|exact ⟨rfl,_,Eq.trans (World.drewN_drewN _ _ _) (congrArg (World.drewN _) (Nat.add_assoc _ _ _))⟩);have p8 : 0 ≤ (x4_1 : Int):=of_decide_eq_true (by first|(with_reducible assumption)|assumption);have q8 : x4_1 < (a0.size : Int):=of_decide_eq_true (by first|(with_reducible assumption)|assumption);have hx8:=bt_at a0 x4_1;replace p8:=eq_true p8;replace q8:=eq_true q8)))
    go_meet
    case rel => exact ⟨_,(((bt a0 x4_1) == 46)),(by first|rfl|(simp;done)|(simp [*];done)|(simp;rw [Bool.eq_iff_iff];simp;done)|(rw [Bool.eq_iff_iff];simp;done)),H',⟨by have:=HK1.out;first|omega|exact Nat.le_refl _⟩,⟨by (with_reducible repeat (first|apply Kd.R_alloc|apply Kd.R_drewN|apply Kd.R_drew));exact HO_6.out⟩,⟨by repeat (first|(with_reducible first|exact HB.out|apply below_alloc|apply pw_below_drewN|apply below_drew1)|exact HB.out)⟩⟩
   case rest =>
    clear HC2;(try clear c1);(try clear p2);(try clear c3);(try clear c3b0);(try clear c4);(try clear c4b0);(try clear p5);(try clear q5);(try clear hx5);(try clear c7);(try clear p8);(try clear q8);(try clear hx8);(try clear p5);(try clear p8);(try clear q5);(try clear q8)
    obtain ⟨kq,x25_1,rfl,HA,HJ1,HO_6,HB⟩:=hcut
    cases kq with
   |zero => exact absurd HA.out (by simp [bursarref03_Parse.j1])
   |succ kj1 =>
     have H:=HA.out
     clear HA
     simp only [bursarref03_Parse.j1] at H
     by_cases c9 : x25_1 = true
     ·subst c9
      have H1 : (if 0 ≤ x4_1 then (if x4_1 < (a0.size : Int) then (if (bt a0 x4_1) = 46 then (if x4_1 = 0 then (some (0,30)) else (if (wrap64 (x5_1 + 1)) > 1 then (some (0,30)) else (if (wrap64 (x4_1 + 1)) ≥ (a0.size : Int) then (some (0,30)) else (if 0 ≤ (wrap64 (x4_1 + 1)) then (if (wrap64 (x4_1 + 1)) < (a0.size : Int) then ((bursarref03_digit.f (bt a0 (wrap64 (x4_1 + 1)))).bind fun t290 => (if t290 = true then (bursarref03_Parse.l0 kj1 a0 (wrap64 (x4_1 + 1)) (wrap64 (x5_1 + 1)) x6_1 x7_1) else (some (0,30)))) else (none)) else (none))))) else (if x6_1.length < 17592186044416 then (bursarref03_Parse.l0 kj1 a0 (wrap64 (x4_1 + 1)) x5_1 (x6_1 ++ [((bt a0 x4_1) - 48) % 256]) (wrap64 (x7_1 + x5_1))) else (none))) else (none)) else (none)) = some (r1,r2):=by rw [if_pos rfl] at H;exact H
      clear H;have H:=H1;clear H1
      by_cases c10 : 0 ≤ x4_1
      rotate_left
      ·rw [if_neg c10] at H
       exact absurd H (by simp)
      rw [if_pos c10] at H
      have c10b0 : decide (0 ≤ x4_1) = true:=decide_eq_true c10
      clear c10
      by_cases c11 : x4_1 < (a0.size : Int)
      rotate_left
      ·rw [if_neg c11] at H
       exact absurd H (by simp)
      rw [if_pos c11] at H
      have c11b0 : decide (x4_1 < (a0.size : Int)) = true:=decide_eq_true c11
      clear c11
      by_cases c13 : (bt a0 x4_1) = 46
      rotate_left
      ·rw [if_neg c13] at H
       have c13b0 : ((bt a0 x4_1) == 46) = false:=beq_eq_false_iff_ne.mpr c13
       have c13b1 : ((bt a0 x4_1) != 46) = true:=bne_iff_ne.mpr c13
       by_cases c24 : x6_1.length < 17592186044416
       rotate_left
       ·rw [if_neg c24] at H
        exact absurd H (by simp)
       rw [if_pos c24] at H
       have LMc24:=Aside0.mk c24
       clear c24
       obtain ⟨y291,hy291⟩ : ∃ y_ : List Int,y_ = (x6_1 ++ [((bt a0 x4_1) - 48) % 256]):=⟨_,rfl⟩
       replace H : (bursarref03_Parse.l0 kj1 a0 (wrap64 (x4_1 + 1)) x5_1 y291 (wrap64 (x7_1 + x5_1))) = some (r1,r2):=by first|(rw [hy291];with_reducible exact H)|(have H2_:=(Option.bind_some _ _).symm.trans H;rw [hy291];with_reducible exact H2_)|(have H2_:=(Option.bind_some _ _).symm.trans H;with_reducible exact H2_)|with_reducible exact H|(rw [hy291];exact H)|exact H
       have Ny291:=Aside0.mk hy291
       clear hy291
       have H':=Aside0.mk H
       clear H
       have p12 : 0 ≤ (x4_1 : Int):=of_decide_eq_true (by first|(with_reducible assumption)|assumption)
       have q12 : x4_1 < (a0.size : Int):=of_decide_eq_true (by first|(with_reducible assumption)|assumption)
       have hx12:=bt_at a0 x4_1
       replace p12:=eq_true p12
       replace q12:=eq_true q12
       have p23 : 0 ≤ (x4_1 : Int):=of_decide_eq_true (by first|(with_reducible assumption)|assumption)
       have q23 : x4_1 < (a0.size : Int):=of_decide_eq_true (by first|(with_reducible assumption)|assumption)
       have hx23:=bt_at a0 x4_1
       replace p23:=eq_true p23
       replace q23:=eq_true q23
       go_wp2_with (first|((with_reducible refine gate_builtin (b:=.append) (xs:=#[.tmp 53,.tmp 59]) rfl ?_);(try (refine gate_guard (by rfl) ?_;dsimp only));at_builtin;refine Kd.R_append (Kd.int .i64) (w0:=w) w.heap.size rfl (.tmp 53) (.tmp 59) 80 3 (.int .i64 0) 8 rfl Tryz.underlying80 info3 rfl (by decide) (by omega) u6 x6_1 (((bt a0 x4_1) - 48) % 256) [.int .i64 (((bt a0 x4_1) - 48) % 256)] (fun _ => True) (fun _ => False) rfl rfl ?aP (fun _ hk => hk.elim) ?aF ?aO ?aB ?aS ?aL ?_;(case aP => exact rfl);(case aB => exact (by repeat (first|(with_reducible first|exact HB.out|apply below_alloc|apply pw_below_drewN|apply below_drew1)|exact HB.out)));(case aF => exact (fun _ _ => trivial));(case aO => exact (by (with_reducible repeat (first|apply Kd.R_alloc|apply Kd.R_drewN|apply Kd.R_drew));exact HO_6.out));(case aS => exact (below_size (by repeat (first|(with_reducible first|exact HB.out|apply below_alloc|apply pw_below_drewN|apply below_drew1)|exact HB.out))));(case aL => have:=LMc24.out;omega);intro v292 w25 ho hb hg hat;rw [← Ny291.out] at ho;have n0_:=Aside0.mk (hb);have n1_:=Aside0.mk (ho);clear HB;clear HO_6;have HB:=n0_;have HO293:=n1_;clear n0_ n1_;clear ho hb hg hat))
       repeat (go_quiet (first|((with_reducible refine gate_builtin (b:=.append) (xs:=#[.tmp 53,.tmp 59]) rfl ?_);(try (refine gate_guard (by rfl) ?_;dsimp only));at_builtin;refine Kd.R_append (Kd.int .i64) (w0:=w) w.heap.size rfl (.tmp 53) (.tmp 59) 80 3 (.int .i64 0) 8 rfl Tryz.underlying80 info3 rfl (by decide) (by omega) u6 x6_1 (((bt a0 x4_1) - 48) % 256) [.int .i64 (((bt a0 x4_1) - 48) % 256)] (fun _ => True) (fun _ => False) rfl rfl ?aP (fun _ hk => hk.elim) ?aF ?aO ?aB ?aS ?aL ?_;(case aP => exact rfl);(case aB => exact (by repeat (first|(with_reducible first|exact HB.out|apply below_alloc|apply pw_below_drewN|apply below_drew1)|exact HB.out)));(case aF => exact (fun _ _ => trivial));(case aO => exact (by (with_reducible repeat (first|apply Kd.R_alloc|apply Kd.R_drewN|apply Kd.R_drew));exact HO_6.out));(case aS => exact (below_size (by repeat (first|(with_reducible first|exact HB.out|apply below_alloc|apply pw_below_drewN|apply below_drew1)|exact HB.out))));(case aL => have:=LMc24.out;omega);intro v292 w25 ho hb hg hat;rw [← Ny291.out] at ho;have n0_:=Aside0.mk (hb);have n1_:=Aside0.mk (ho);clear HB;clear HO_6;have HB:=n0_;have HO293:=n1_;clear n0_ n1_;clear ho hb hg hat));try go_wp2_with (first|((with_reducible refine gate_builtin (b:=.append) (xs:=#[.tmp 53,.tmp 59]) rfl ?_);(try (refine gate_guard (by rfl) ?_;dsimp only));at_builtin;refine Kd.R_append (Kd.int .i64) (w0:=w) w.heap.size rfl (.tmp 53) (.tmp 59) 80 3 (.int .i64 0) 8 rfl Tryz.underlying80 info3 rfl (by decide) (by omega) u6 x6_1 (((bt a0 x4_1) - 48) % 256) [.int .i64 (((bt a0 x4_1) - 48) % 256)] (fun _ => True) (fun _ => False) rfl rfl ?aP (fun _ hk => hk.elim) ?aF ?aO ?aB ?aS ?aL ?_;(case aP => exact rfl);(case aB => exact (by repeat (first|(with_reducible first|exact HB.out|apply below_alloc|apply pw_below_drewN|apply below_drew1)|exact HB.out)));(case aF => exact (fun _ _ => trivial));(case aO => exact (by (with_reducible repeat (first|apply Kd.R_alloc|apply Kd.R_drewN|apply Kd.R_drew));exact HO_6.out));(case aS => exact (below_size (by repeat (first|(with_reducible first|exact HB.out|apply below_alloc|apply pw_below_drewN|apply below_drew1)|exact HB.out))));(case aL => have:=LMc24.out;omega);intro v292 w25 ho hb hg hat;rw [← Ny291.out] at ho;have n0_:=Aside0.mk (hb);have n1_:=Aside0.mk (ho);clear HB;clear HO_6;have HB:=n0_;have HO293:=n1_;clear n0_ n1_;clear ho hb hg hat)))
       go_roundg kj1
       case measure => have:=HK1.out;have:=HJ1.out;omega
       case rel => exact ⟨(wrap64 (x4_1 + 1)),(x5_1),(y291),(wrap64 (x7_1 + x5_1)),(by first|rfl|(simp;done)|(simp [*];done)|(simp;rw [Bool.eq_iff_iff];simp;done)|(rw [Bool.eq_iff_iff];simp;done)),(by first|rfl|(simp;done)|(simp [*];done)|(simp;rw [Bool.eq_iff_iff];simp;done)|(rw [Bool.eq_iff_iff];simp;done)),(by first|rfl|(simp;done)|(simp [*];done)|(simp;rw [Bool.eq_iff_iff];simp;done)|(rw [Bool.eq_iff_iff];simp;done)),H',⟨by have:=HK1.out;have:=HJ1.out;omega⟩,⟨by (with_reducible repeat (first|apply Kd.R_alloc|apply Kd.R_drewN|apply Kd.R_drew));exact HO293.out⟩,⟨by repeat (first|(with_reducible first|exact HB.out|apply below_alloc|apply pw_below_drewN|apply below_drew1)|exact HB.out)⟩⟩
      rw [if_pos c13] at H
      have c13b0 : ((bt a0 x4_1) == 46) = true:=beq_iff_eq.mpr c13
      have c13b1 : ((bt a0 x4_1) != 46) = false:=bne_eq_false_iff_eq.mpr c13
      clear c13
      by_cases c14 : x4_1 = 0
      ·rw [if_pos c14] at H
       have c14b0 : (x4_1 == 0) = true:=beq_iff_eq.mpr c14
       have c14b1 : (x4_1 != 0) = false:=bne_eq_false_iff_eq.mpr c14
       clear c14
       simp only [Option.some.injEq,Prod.mk.injEq] at H
       obtain ⟨rfl,rfl⟩:=H
       have p12 : 0 ≤ (x4_1 : Int):=of_decide_eq_true (by first|(with_reducible assumption)|assumption)
       have q12 : x4_1 < (a0.size : Int):=of_decide_eq_true (by first|(with_reducible assumption)|assumption)
       have hx12:=bt_at a0 x4_1
       replace p12:=eq_true p12
       replace q12:=eq_true q12
       go_wp2
       repeat (go_quiet (fail);try go_wp2)
       go_ret2
       exact ⟨by first|rfl|(simp [errW_none,errW_some] <;> rfl)|(simp [*,errW_none,errW_some] <;> rfl),by repeat (first|(with_reducible first|exact HB.out|apply below_alloc|apply pw_below_drewN|apply below_drew1)|exact HB.out)⟩
      rw [if_neg c14] at H
      have c14b0 : (x4_1 == 0) = false:=beq_eq_false_iff_ne.mpr c14
      have c14b1 : (x4_1 != 0) = true:=bne_iff_ne.mpr c14
      by_cases c15 : (wrap64 (x5_1 + 1)) > 1
      ·rw [if_pos c15] at H
       have c15b0 : decide (1 < (wrap64 (x5_1 + 1))) = true:=decide_eq_true c15
       clear c15
       simp only [Option.some.injEq,Prod.mk.injEq] at H
       obtain ⟨rfl,rfl⟩:=H
       have p12 : 0 ≤ (x4_1 : Int):=of_decide_eq_true (by first|(with_reducible assumption)|assumption)
       have q12 : x4_1 < (a0.size : Int):=of_decide_eq_true (by first|(with_reducible assumption)|assumption)
       have hx12:=bt_at a0 x4_1
       replace p12:=eq_true p12
       replace q12:=eq_true q12
       go_wp2
       repeat (go_quiet (fail);try go_wp2)
       go_ret2
       exact ⟨by first|rfl|(simp [errW_none,errW_some] <;> rfl)|(simp [*,errW_none,errW_some] <;> rfl),by repeat (first|(with_reducible first|exact HB.out|apply below_alloc|apply pw_below_drewN|apply below_drew1)|exact HB.out)⟩
      rw [if_neg c15] at H
      have c15b0 : decide (1 < (wrap64 (x5_1 + 1))) = false:=decide_eq_false c15
      clear c15
      by_cases c16 : (wrap64 (x4_1 + 1)) ≥ (a0.size : Int)
      ·rw [if_pos c16] at H
       have c16b0 : decide ((a0.size : Int) ≤ (wrap64 (x4_1 + 1))) = true:=decide_eq_true c16
       clear c16
       simp only [Option.some.injEq,Prod.mk.injEq] at H
       obtain ⟨rfl,rfl⟩:=H
       have p12 : 0 ≤ (x4_1 : Int):=of_decide_eq_true (by first|(with_reducible assumption)|assumption)
       have q12 : x4_1 < (a0.size : Int):=of_decide_eq_true (by first|(with_reducible assumption)|assumption)
       have hx12:=bt_at a0 x4_1
       replace p12:=eq_true p12
       replace q12:=eq_true q12
       go_wp2
       repeat (go_quiet (fail);try go_wp2)
       go_ret2
       exact ⟨by first|rfl|(simp [errW_none,errW_some] <;> rfl)|(simp [*,errW_none,errW_some] <;> rfl),by repeat (first|(with_reducible first|exact HB.out|apply below_alloc|apply pw_below_drewN|apply below_drew1)|exact HB.out)⟩
      rw [if_neg c16] at H
      have c16b0 : decide ((a0.size : Int) ≤ (wrap64 (x4_1 + 1))) = false:=decide_eq_false c16
      clear c16
      obtain ⟨ji17,hji17⟩ : ∃ j_ : Int,(wrap64 (x4_1 + 1)) = j_:=⟨_,rfl⟩
      replace H : (if 0 ≤ (ji17) then (if (ji17) < (a0.size : Int) then ((bursarref03_digit.f (bt a0 (ji17))).bind fun t290 => (if t290 = true then (bursarref03_Parse.l0 kj1 a0 ji17 (wrap64 (x5_1 + 1)) x6_1 x7_1) else (some (0,30)))) else (none)) else (none)) = some (r1,r2):=by first|(rw [hji17] at H;exact H)|(simp only [hji17] at H ⊢;exact H)
      (try rw [hji17] at c16b0)
      have hji17w : (IntKind.i64.wrap (x4_1 + 1)) = ji17:=(i64_w _).trans hji17
      by_cases c18 : 0 ≤ (ji17)
      rotate_left
      ·rw [if_neg c18] at H
       exact absurd H (by simp)
      rw [if_pos c18] at H
      have c18b0 : decide (0 ≤ (ji17)) = true:=decide_eq_true c18
      clear c18
      by_cases c19 : (ji17) < (a0.size : Int)
      rotate_left
      ·rw [if_neg c19] at H
       exact absurd H (by simp)
      rw [if_pos c19] at H
      have c19b0 : decide ((ji17) < (a0.size : Int)) = true:=decide_eq_true c19
      clear c19
      replace H:=Option.bind_eq_some_iff.mp H
      obtain ⟨t290,A210,H⟩:=H
      replace H : (if t290 = true then (bursarref03_Parse.l0 kj1 a0 ji17 (wrap64 (x5_1 + 1)) x6_1 x7_1) else (some (0,30))) = some (r1,r2):=H
      have A21:=Aside0.mk A210
      clear A210
      by_cases c22 : t290 = true
      rotate_left
      ·replace c22:=Bool.eq_false_iff.mpr c22
       subst c22
       have H1 : (some (0,30)) = some (r1,r2):=by rw [if_neg (show ¬ (false = true) by decide)] at H;exact H
       clear H;have H:=H1;clear H1
       simp only [Option.some.injEq,Prod.mk.injEq] at H
       obtain ⟨rfl,rfl⟩:=H
       have p12 : 0 ≤ (x4_1 : Int):=of_decide_eq_true (by first|(with_reducible assumption)|assumption)
       have q12 : x4_1 < (a0.size : Int):=of_decide_eq_true (by first|(with_reducible assumption)|assumption)
       have hx12:=bt_at a0 x4_1
       replace p12:=eq_true p12
       replace q12:=eq_true q12
       have p20 : 0 ≤ ((ji17) : Int):=of_decide_eq_true (by first|(with_reducible assumption)|assumption)
       have q20 : (ji17) < (a0.size : Int):=of_decide_eq_true (by first|(with_reducible assumption)|assumption)
       have hx20:=bt_at a0 (ji17)
       replace p20:=eq_true p20
       replace q20:=eq_true q20
       go_wp2_with (first|(go_at_call 58;(with_reducible refine (bursarref03_digit.calls (bt a0 (ji17)) false _ A21.out).mono ?_);rintro e w' ⟨rfl,⟨nd,rfl⟩⟩;(try first|exact ⟨rfl,_,World.drewN_drewN _ _ _⟩|exact ⟨rfl,_,Eq.trans (World.drewN_drewN _ _ _) (congrArg (World.drewN _) (Nat.add_assoc _ _ _))⟩)))
       repeat (go_quiet (first|(go_at_call 58;(with_reducible refine (bursarref03_digit.calls (bt a0 (ji17)) false _ A21.out).mono ?_);rintro e w' ⟨rfl,⟨nd,rfl⟩⟩;(try first|exact ⟨rfl,_,World.drewN_drewN _ _ _⟩|exact ⟨rfl,_,Eq.trans (World.drewN_drewN _ _ _) (congrArg (World.drewN _) (Nat.add_assoc _ _ _))⟩)));try go_wp2_with (first|(go_at_call 58;(with_reducible refine (bursarref03_digit.calls (bt a0 (ji17)) false _ A21.out).mono ?_);rintro e w' ⟨rfl,⟨nd,rfl⟩⟩;(try first|exact ⟨rfl,_,World.drewN_drewN _ _ _⟩|exact ⟨rfl,_,Eq.trans (World.drewN_drewN _ _ _) (congrArg (World.drewN _) (Nat.add_assoc _ _ _))⟩))))
       go_ret2
       exact ⟨by first|rfl|(simp [errW_none,errW_some] <;> rfl)|(simp only [← hji17];first|rfl|(simp [errW_none,errW_some] <;> rfl))|(simp [*,errW_none,errW_some] <;> rfl),by repeat (first|(with_reducible first|exact HB.out|apply below_alloc|apply pw_below_drewN|apply below_drew1)|exact HB.out)⟩
      subst c22
      have H1 : (bursarref03_Parse.l0 kj1 a0 ji17 (wrap64 (x5_1 + 1)) x6_1 x7_1) = some (r1,r2):=by rw [if_pos rfl] at H;exact H
      clear H;have H:=H1;clear H1
      have H':=Aside0.mk H
      clear H
      have p12 : 0 ≤ (x4_1 : Int):=of_decide_eq_true (by first|(with_reducible assumption)|assumption)
      have q12 : x4_1 < (a0.size : Int):=of_decide_eq_true (by first|(with_reducible assumption)|assumption)
      have hx12:=bt_at a0 x4_1
      replace p12:=eq_true p12
      replace q12:=eq_true q12
      have p20 : 0 ≤ ((ji17) : Int):=of_decide_eq_true (by first|(with_reducible assumption)|assumption)
      have q20 : (ji17) < (a0.size : Int):=of_decide_eq_true (by first|(with_reducible assumption)|assumption)
      have hx20:=bt_at a0 (ji17)
      replace p20:=eq_true p20
      replace q20:=eq_true q20
      go_wp2_with (first|(go_at_call 58;(with_reducible refine (bursarref03_digit.calls (bt a0 (ji17)) true _ A21.out).mono ?_);rintro e w' ⟨rfl,⟨nd,rfl⟩⟩;(try first|exact ⟨rfl,_,World.drewN_drewN _ _ _⟩|exact ⟨rfl,_,Eq.trans (World.drewN_drewN _ _ _) (congrArg (World.drewN _) (Nat.add_assoc _ _ _))⟩)))
      repeat (go_quiet (first|(go_at_call 58;(with_reducible refine (bursarref03_digit.calls (bt a0 (ji17)) true _ A21.out).mono ?_);rintro e w' ⟨rfl,⟨nd,rfl⟩⟩;(try first|exact ⟨rfl,_,World.drewN_drewN _ _ _⟩|exact ⟨rfl,_,Eq.trans (World.drewN_drewN _ _ _) (congrArg (World.drewN _) (Nat.add_assoc _ _ _))⟩)));try go_wp2_with (first|(go_at_call 58;(with_reducible refine (bursarref03_digit.calls (bt a0 (ji17)) true _ A21.out).mono ?_);rintro e w' ⟨rfl,⟨nd,rfl⟩⟩;(try first|exact ⟨rfl,_,World.drewN_drewN _ _ _⟩|exact ⟨rfl,_,Eq.trans (World.drewN_drewN _ _ _) (congrArg (World.drewN _) (Nat.add_assoc _ _ _))⟩))))
      go_roundg kj1
      case measure => have:=HK1.out;have:=HJ1.out;omega
      case rel => exact ⟨(ji17),(wrap64 (x5_1 + 1)),(x6_1),(x7_1),(by first|rfl|(simp;done)|(simp only [← hji17] <;> (first|rfl|simp))|(simp [*];done)),(by first|rfl|(simp;done)|(simp [*];done)|(simp;rw [Bool.eq_iff_iff];simp;done)|(rw [Bool.eq_iff_iff];simp;done)),(by first|rfl|(simp;done)|(simp [*];done)|(simp;rw [Bool.eq_iff_iff];simp;done)|(rw [Bool.eq_iff_iff];simp;done)),H',⟨by have:=HK1.out;have:=HJ1.out;omega⟩,⟨by (with_reducible repeat (first|apply Kd.R_alloc|apply Kd.R_drewN|apply Kd.R_drew));exact HO_6.out⟩,⟨by repeat (first|(with_reducible first|exact HB.out|apply below_alloc|apply pw_below_drewN|apply below_drew1)|exact HB.out)⟩⟩
     replace c9:=Bool.eq_false_iff.mpr c9
     subst c9
     have H1 : (if (x6_1.length : Int) < 1 then (bursarref03_Parse.j2 kj1 a0 x4_1 x6_1 x7_1 true) else (bursarref03_Parse.j2 kj1 a0 x4_1 x6_1 x7_1 (decide ((x6_1.length : Int) > 19)))) = some (r1,r2):=by rw [if_neg (show ¬ (false = true) by decide)] at H;exact H
     clear H;have H:=H1;clear H1
     have HC26:=Aside0.mk H
     clear H
     go_upto_region 13 with (fail)
     repeat (go_quiet (fail);go_upto_region 13 with (fail))
     go_cut [73] (fun v73 wc => ∃ (kq : Nat) (x73_25 : Bool),v73 = .bool x73_25 ∧ Aside0 (bursarref03_Parse.j2 kq a0 x4_1 x6_1 x7_1 x73_25 = some (r1,r2)) ∧ Aside0 (kq ≤ kj1) ∧ Aside0 (Kd.R (Kd.int .i64) 3 wc w.heap.size (fun _ => True) u6 x6_1) ∧ Aside0 (Below w.heap.size w wc))
     case first =>
      have H:=HC26.out
      clear HC26
      by_cases c27 : (x6_1.length : Int) < 1
      ·rw [if_pos c27] at H
       have c27b0 : decide ((x6_1.length : Int) < 1) = true:=decide_eq_true c27
       have c27b1 : decide (x6_1.length < 1) = true:=decide_eq_true (by omega)
       clear c27
       (first|rw [c27b0]|(simp only [i64_w,i32_w];rw [c27b0])|skip)
       have H':=Aside0.mk H
       clear H
       obtain ⟨Ao28,co28,eo28⟩:=Kd.R_slice HO_6.out
       subst eo28
       go_wp2
       repeat (go_quiet (fail);try go_wp2)
       go_meet
       case rel => exact ⟨_,(true),(by first|rfl|(simp;done)|(simp [*];done)|(simp;rw [Bool.eq_iff_iff];simp;done)|(rw [Bool.eq_iff_iff];simp;done)),H',⟨by have:=HK1.out;have:=HJ1.out;first|omega|exact Nat.le_refl _⟩,⟨by (with_reducible repeat (first|apply Kd.R_alloc|apply Kd.R_drewN|apply Kd.R_drew));exact HO_6.out⟩,⟨by repeat (first|(with_reducible first|exact HB.out|apply below_alloc|apply pw_below_drewN|apply below_drew1)|exact HB.out)⟩⟩
      rw [if_neg c27] at H
      have c27b0 : decide ((x6_1.length : Int) < 1) = false:=decide_eq_false c27
      have c27b1 : decide (x6_1.length < 1) = false:=decide_eq_false (by omega)
      clear c27
      (first|rw [c27b0]|(simp only [i64_w,i32_w];rw [c27b0])|skip)
      have H':=Aside0.mk H
      clear H
      obtain ⟨Ao29,co29,eo29⟩:=Kd.R_slice HO_6.out
      subst eo29
      go_wp2
      repeat (go_quiet (fail);try go_wp2)
      go_meet
      case rel => exact ⟨_,(decide ((x6_1.length : Int) > 19)),(by first|rfl|(simp;done)|(simp [*];done)|(simp;rw [Bool.eq_iff_iff];simp;done)|(rw [Bool.eq_iff_iff];simp;done)),H',⟨by have:=HK1.out;have:=HJ1.out;first|omega|exact Nat.le_refl _⟩,⟨by (with_reducible repeat (first|apply Kd.R_alloc|apply Kd.R_drewN|apply Kd.R_drew));exact HO_6.out⟩,⟨by repeat (first|(with_reducible first|exact HB.out|apply below_alloc|apply pw_below_drewN|apply below_drew1)|exact HB.out)⟩⟩
     case rest =>
      clear HC26;(try clear c1);(try clear p1);(try clear q1);(try clear hx1);(try clear c2);(try clear p2);(try clear q2);(try clear hx2);(try clear c3);(try clear c3b0);(try clear c4);(try clear c4b0);(try clear p5);(try clear q5);(try clear hx5);(try clear p6);(try clear c7);(try clear p8);(try clear q8);(try clear hx8);(try clear c9);(try clear c10);(try clear c10b0);(try clear c11);(try clear c11b0);(try clear p12);(try clear q12);(try clear hx12);(try clear c13);(try clear c13b0);(try clear c13b1);(try clear c14);(try clear c14b0);(try clear c14b1);(try clear c15);(try clear c15b0);(try clear c16);(try clear c16b0);(try clear c18);(try clear c18b0);(try clear c19);(try clear c19b0);(try clear p20);(try clear q20);(try clear hx20);(try clear c22);(try clear p23);(try clear q23);(try clear hx23);(try clear c24);(try clear c27);(try clear c27b0);(try clear c27b1);(try clear p12);(try clear p2);(try clear p20);(try clear p23);(try clear p5);(try clear p8);(try clear q12);(try clear q20);(try clear q23);(try clear q5);(try clear q8)
      obtain ⟨kq,x73_25,rfl,HA,HJ25,HO_6,HB⟩:=hcut
      cases kq with
     |zero => exact absurd HA.out (by simp [bursarref03_Parse.j2])
     |succ kj25 =>
       have H:=HA.out
       clear HA
       simp only [bursarref03_Parse.j2] at H
       by_cases c30 : x73_25 = true
       ·subst c30
        have H1 : (some (0,30)) = some (r1,r2):=by rw [if_pos rfl] at H;exact H
        clear H;have H:=H1;clear H1
        simp only [Option.some.injEq,Prod.mk.injEq] at H
        obtain ⟨rfl,rfl⟩:=H
        go_wp2
        repeat (go_quiet (fail);try go_wp2)
        go_ret2
        exact ⟨by first|rfl|(simp [errW_none,errW_some] <;> rfl)|(simp [*,errW_none,errW_some] <;> rfl),by repeat (first|(with_reducible first|exact HB.out|apply below_alloc|apply pw_below_drewN|apply below_drew1)|exact HB.out)⟩
       replace c30:=Bool.eq_false_iff.mpr c30
       subst c30
       have H1 : ((bursarref03_suffixes.f kj25).bind fun t294 => (bursarref03_Parse.l1 kj25 a0 x4_1 x6_1 x7_1 t294 0)) = some (r1,r2):=by rw [if_neg (show ¬ (false = true) by decide)] at H;exact H
       clear H;have H:=H1;clear H1
       replace H:=Option.bind_eq_some_iff.mp H
       obtain ⟨t294,A310,H⟩:=H
       replace H : (bursarref03_Parse.l1 kj25 a0 x4_1 x6_1 x7_1 t294 0) = some (r1,r2):=H
       have A31:=Aside0.mk A310
       clear A310
       have H':=Aside0.mk H
       clear H
       go_wp2_with (first|(go_at_call 59;(with_reducible refine (bursarref03_suffixes.calls kj25  t294 _ A31.out).mono ?_);rintro e w32 ⟨v295,rfl,ho0,hb⟩;have n0_:=Aside0.mk (Kd.R_below (by (with_reducible repeat (first|apply Kd.R_alloc|apply Kd.R_drewN|apply Kd.R_drew));exact HO_6.out) hb);have n1_:=Aside0.mk (Kd.N_lower (Kd.N_mono (ok':=fun k_ => some k_ ≠ (u6 : Value).ownBlock) ho0 (fun k_ hk_ => (Kd.fresh' (Kd.R_lt (by (with_reducible repeat (first|apply Kd.R_alloc|apply Kd.R_drewN|apply Kd.R_drew));exact HO_6.out)) k_ hk_))) (below_size (by repeat (first|(with_reducible first|exact HB.out|apply below_alloc|apply pw_below_drewN|apply below_drew1)|exact HB.out))));have n2_:=Aside0.mk (below_step (by repeat (first|(with_reducible first|exact HB.out|apply below_alloc|apply pw_below_drewN|apply below_drew1)|exact HB.out)) hb);clear HO_6;clear HB;have HO_6:=n0_;have HO296:=n1_;have HB:=n2_;clear n0_ n1_ n2_;(try clear hb);(try clear hb2);(try clear hk);(try clear hi);(try clear ho0)))
       repeat (go_quiet (first|(go_at_call 59;(with_reducible refine (bursarref03_suffixes.calls kj25  t294 _ A31.out).mono ?_);rintro e w32 ⟨v295,rfl,ho0,hb⟩;have n0_:=Aside0.mk (Kd.R_below (by (with_reducible repeat (first|apply Kd.R_alloc|apply Kd.R_drewN|apply Kd.R_drew));exact HO_6.out) hb);have n1_:=Aside0.mk (Kd.N_lower (Kd.N_mono (ok':=fun k_ => some k_ ≠ (u6 : Value).ownBlock) ho0 (fun k_ hk_ => (Kd.fresh' (Kd.R_lt (by (with_reducible repeat (first|apply Kd.R_alloc|apply Kd.R_drewN|apply Kd.R_drew));exact HO_6.out)) k_ hk_))) (below_size (by repeat (first|(with_reducible first|exact HB.out|apply below_alloc|apply pw_below_drewN|apply below_drew1)|exact HB.out))));have n2_:=Aside0.mk (below_step (by repeat (first|(with_reducible first|exact HB.out|apply below_alloc|apply pw_below_drewN|apply below_drew1)|exact HB.out)) hb);clear HO_6;clear HB;have HO_6:=n0_;have HO296:=n1_;have HB:=n2_;clear n0_ n1_ n2_;(try clear hb);(try clear hb2);(try clear hk);(try clear hi);(try clear ho0)));try go_wp2_with (first|(go_at_call 59;(with_reducible refine (bursarref03_suffixes.calls kj25  t294 _ A31.out).mono ?_);rintro e w32 ⟨v295,rfl,ho0,hb⟩;have n0_:=Aside0.mk (Kd.R_below (by (with_reducible repeat (first|apply Kd.R_alloc|apply Kd.R_drewN|apply Kd.R_drew));exact HO_6.out) hb);have n1_:=Aside0.mk (Kd.N_lower (Kd.N_mono (ok':=fun k_ => some k_ ≠ (u6 : Value).ownBlock) ho0 (fun k_ hk_ => (Kd.fresh' (Kd.R_lt (by (with_reducible repeat (first|apply Kd.R_alloc|apply Kd.R_drewN|apply Kd.R_drew));exact HO_6.out)) k_ hk_))) (below_size (by repeat (first|(with_reducible first|exact HB.out|apply below_alloc|apply pw_below_drewN|apply below_drew1)|exact HB.out))));have n2_:=Aside0.mk (below_step (by repeat (first|(with_reducible first|exact HB.out|apply below_alloc|apply pw_below_drewN|apply below_drew1)|exact HB.out)) hb);clear HO_6;clear HB;have HO_6:=n0_;have HO296:=n1_;have HB:=n2_;clear n0_ n1_ n2_;(try clear hb);(try clear hb2);(try clear hk);(try clear hi);(try clear ho0))))
       go_loopg [9] kj25 (fun kq v9 w' => ∃ (x9_4 : Int),v9 = .int .i64 x9_4 ∧ Aside0 (bursarref03_Parse.l1 kq a0 x4_1 x6_1 x7_1 t294 x9_4 = some (r1,r2)) ∧ Aside0 (kq ≤ kj25) ∧ Aside0 (Kd.R (Kd.int .i64) 3 w' w.heap.size (fun _ => True) u6 x6_1) ∧ Aside0 (Kd.N k87 87 w' w.heap.size (fun k_ => some k_ ≠ (u6 : Value).ownBlock) v295 t294) ∧ Aside0 (Below w.heap.size w w'))
       case atStart => exact ⟨(0),(by first|rfl|(simp;done)|(simp [*];done)|(simp;rw [Bool.eq_iff_iff];simp;done)|(rw [Bool.eq_iff_iff];simp;done)),H',⟨Nat.le_refl _⟩,⟨by (with_reducible repeat (first|apply Kd.R_alloc|apply Kd.R_drewN|apply Kd.R_drew));exact HO_6.out⟩,⟨by (with_reducible repeat (first|apply Kd.N_alloc|apply Kd.N_drewN|apply Kd.N_drew));exact HO296.out⟩,⟨by repeat (first|(with_reducible first|exact HB.out|apply below_alloc|apply pw_below_drewN|apply below_drew1)|exact HB.out)⟩⟩
       case round =>
        clear H';(try clear c1);(try clear p1);(try clear q1);(try clear hx1);(try clear c2);(try clear p2);(try clear q2);(try clear hx2);(try clear c3);(try clear c3b0);(try clear c4);(try clear c4b0);(try clear p5);(try clear q5);(try clear hx5);(try clear p6);(try clear c7);(try clear p8);(try clear q8);(try clear hx8);(try clear c9);(try clear c10);(try clear c10b0);(try clear c11);(try clear c11b0);(try clear p12);(try clear q12);(try clear hx12);(try clear c13);(try clear c13b0);(try clear c13b1);(try clear c14);(try clear c14b0);(try clear c14b1);(try clear c15);(try clear c15b0);(try clear c16);(try clear c16b0);(try clear c18);(try clear c18b0);(try clear c19);(try clear c19b0);(try clear p20);(try clear q20);(try clear hx20);(try clear c22);(try clear p23);(try clear q23);(try clear hx23);(try clear c24);(try clear c27);(try clear c27b0);(try clear c27b1);(try clear c30);(try clear p1);(try clear p12);(try clear p2);(try clear p20);(try clear p23);(try clear p5);(try clear p6);(try clear p8);(try clear q1);(try clear q12);(try clear q2);(try clear q20);(try clear q23);(try clear q5);(try clear q8)
        obtain ⟨x9_4,rfl,HA,HK4,HO_6,HO_8,HB⟩:=hrel
        cases gk with
       |zero => exact absurd HA.out (by simp [bursarref03_Parse.l1])
       |succ k4 =>
         have H:=HA.out
         clear HA
         simp only [bursarref03_Parse.l1] at H
         by_cases c33 : x9_4 < (t294.length : Int)
         rotate_left
         ·rw [if_neg c33] at H
          have c33b0 : decide (x9_4 < (t294.length : Int)) = false:=decide_eq_false c33
          clear c33
          simp only [Option.some.injEq,Prod.mk.injEq] at H
          obtain ⟨rfl,rfl⟩:=H
          obtain ⟨Ao43,co43,eo43⟩:=Kd.N_slice HO_8.out
          subst eo43
          go_wp2
          repeat (go_quiet (fail);try go_wp2)
          go_ret2
          exact ⟨by first|rfl|(simp [errW_none,errW_some] <;> rfl)|(simp [*,errW_none,errW_some] <;> rfl),by repeat (first|(with_reducible first|exact HB.out|apply below_alloc|apply pw_below_drewN|apply below_drew1)|exact HB.out)⟩
         rw [if_pos c33] at H
         have c33b0 : decide (x9_4 < (t294.length : Int)) = true:=decide_eq_true c33
         clear c33
         by_cases c34 : 0 ≤ x9_4
         rotate_left
         ·rw [if_neg c34] at H
          exact absurd H (by simp)
         rw [if_pos c34] at H
         have c34b0 : decide (0 ≤ x9_4) = true:=decide_eq_true c34
         clear c34
         by_cases c35 : 0 ≤ x4_1
         rotate_left
         ·rw [if_neg c35] at H
          exact absurd H (by simp)
         rw [if_pos c35] at H
         have c35b0:=eq_true c35
         have c35b1 : decide (0 ≤ x4_1) = true:=decide_eq_true c35
         clear c35
         by_cases c36 : x4_1 ≤ (a0.size : Int)
         rotate_left
         ·rw [if_neg c36] at H
          exact absurd H (by simp)
         rw [if_pos c36] at H
         have c36b0:=eq_true c36
         have c36b1 : decide (x4_1 ≤ (a0.size : Int)) = true:=decide_eq_true c36
         clear c36
         by_cases c37 : ((rd_T87 t294 x9_4).f0).toList = (a0.extract (x4_1 : Int).toNat a0.size).toList
         rotate_left
         ·rw [if_neg c37] at H
          have c37b0 : (((rd_T87 t294 x9_4).f0).toList == (a0.extract (x4_1 : Int).toNat a0.size).toList) = false:=beq_eq_false_iff_ne.mpr c37
          have c37b1 : (((rd_T87 t294 x9_4).f0).toList != (a0.extract (x4_1 : Int).toNat a0.size).toList) = true:=bne_iff_ne.mpr c37
          have H':=Aside0.mk H
          clear H
          obtain ⟨Ao42,co42,eo42⟩:=Kd.N_slice HO_8.out
          subst eo42
          have p297 : 0 ≤ (x9_4 : Int):=of_decide_eq_true (by first|(with_reducible assumption)|assumption)
          have q297 : x9_4 < (t294.length : Int):=of_decide_eq_true (by first|(with_reducible assumption)|assumption)
          obtain ⟨ad297,A297_1,c297_1,e297,hx297_0,hx297_1,hl297_1,hi297_1⟩:=at_T87 (Kd.N_reads' HO_8.out).2.2 x9_4 p297 q297
          cases e297
          obtain ⟨ce297,hce297,hMe297,hcc297⟩:=Kd.N_get HO_8.out z87 x9_4 p297 (by first|exact q297|exact of_decide_eq_true (by first|(with_reducible assumption)|assumption)|(have e_:=(Kd.N_reads' HO_8.out).1;omega))
          obtain ⟨ua297_1,uc297_1,rfl,ul297_1,ge297_1⟩:=k87_openF hMe297
          have hv297_1:=hcc297 1 _ rfl
          rw [add_field _ _ 1 (by omega)] at hv297_1
          replace hv297_1:=Option.some.inj (hv297_1.symm.trans hx297_1)
          injection hv297_1 with hva_ hvn_ hvc_
          rw [hva_] at ge297_1
          rw [hvc_] at ul297_1
          have HL297_1:=Aside0.mk (show Kd.V (Kd.int .i64) 3 _ w.heap.size _ _ ((rd_T87 t294 x9_4).f1.f0) from Kd.V_mk ul297_1 ge297_1)
          clear hva_ hvn_ hvc_ ge297_1 ul297_1;clear hcc297 hce297
          have HR297_1:=Aside0.mk hi297_1
          have HC297_1:=Aside0.mk hl297_1
          clear hi297_1 hl297_1
          replace p297:=eq_true p297
          replace q297:=eq_true q297
          go_wp2
          repeat (go_quiet (fail);try go_wp2)
          go_roundg k4
          case measure => have:=HK1.out;have:=HJ1.out;have:=HJ25.out;have:=HK4.out;omega
          case rel => exact ⟨(wrap64 (x9_4 + 1)),(by first|rfl|(simp;done)|(simp [*];done)|(simp;rw [Bool.eq_iff_iff];simp;done)|(rw [Bool.eq_iff_iff];simp;done)),H',⟨by have:=HK1.out;have:=HJ1.out;have:=HJ25.out;have:=HK4.out;omega⟩,⟨by (with_reducible repeat (first|apply Kd.R_alloc|apply Kd.R_drewN|apply Kd.R_drew));exact HO_6.out⟩,⟨by (with_reducible repeat (first|apply Kd.N_alloc|apply Kd.N_drewN|apply Kd.N_drew));exact HO_8.out⟩,⟨by repeat (first|(with_reducible first|exact HB.out|apply below_alloc|apply pw_below_drewN|apply below_drew1)|exact HB.out)⟩⟩
         rw [if_pos c37] at H
         have c37b0 : (((rd_T87 t294 x9_4).f0).toList == (a0.extract (x4_1 : Int).toNat a0.size).toList) = true:=beq_iff_eq.mpr c37
         have c37b1 : (((rd_T87 t294 x9_4).f0).toList != (a0.extract (x4_1 : Int).toNat a0.size).toList) = false:=bne_eq_false_iff_eq.mpr c37
         clear c37
         replace H:=Option.bind_eq_some_iff.mp H
         obtain ⟨⟨t299,t300⟩,A380,H⟩:=H
         replace H : (some (t299,t300)) = some (r1,r2):=H
         have A38:=Aside0.mk A380
         clear A380
         simp only [Option.some.injEq,Prod.mk.injEq] at H
         obtain ⟨rfl,rfl⟩:=H
         obtain ⟨Ao39,co39,eo39⟩:=Kd.N_slice HO_8.out
         subst eo39
         have p297 : 0 ≤ (x9_4 : Int):=of_decide_eq_true (by first|(with_reducible assumption)|assumption)
         have q297 : x9_4 < (t294.length : Int):=of_decide_eq_true (by first|(with_reducible assumption)|assumption)
         obtain ⟨ad297,A297_1,c297_1,e297,hx297_0,hx297_1,hl297_1,hi297_1⟩:=at_T87 (Kd.N_reads' HO_8.out).2.2 x9_4 p297 q297
         cases e297
         obtain ⟨ce297,hce297,hMe297,hcc297⟩:=Kd.N_get HO_8.out z87 x9_4 p297 (by first|exact q297|exact of_decide_eq_true (by first|(with_reducible assumption)|assumption)|(have e_:=(Kd.N_reads' HO_8.out).1;omega))
         obtain ⟨ua297_1,uc297_1,rfl,ul297_1,ge297_1⟩:=k87_openF hMe297
         have hv297_1:=hcc297 1 _ rfl
         rw [add_field _ _ 1 (by omega)] at hv297_1
         replace hv297_1:=Option.some.inj (hv297_1.symm.trans hx297_1)
         injection hv297_1 with hva_ hvn_ hvc_
         rw [hva_] at ge297_1
         rw [hvc_] at ul297_1
         have HL297_1:=Aside0.mk (show Kd.V (Kd.int .i64) 3 _ w.heap.size _ _ ((rd_T87 t294 x9_4).f1.f0) from Kd.V_mk ul297_1 ge297_1)
         clear hva_ hvn_ hvc_ ge297_1 ul297_1;clear hcc297 hce297
         have HR297_1:=Aside0.mk hi297_1
         have HC297_1:=Aside0.mk hl297_1
         clear hi297_1 hl297_1
         replace p297:=eq_true p297
         replace q297:=eq_true q297
         have p298 : 0 ≤ (x9_4 : Int):=of_decide_eq_true (by first|(with_reducible assumption)|assumption)
         have q298 : x9_4 < (t294.length : Int):=of_decide_eq_true (by first|(with_reducible assumption)|assumption)
         obtain ⟨ad298,A298_1,c298_1,e298,hx298_0,hx298_1,hl298_1,hi298_1⟩:=at_T87 (Kd.N_reads' HO_8.out).2.2 x9_4 p298 q298
         obtain rfl : ad297 = ad298:=(by injection e298)
         obtain ⟨ce298,hce298,hMe298,hcc298⟩:=Kd.N_get HO_8.out z87 x9_4 p298 (by first|exact q298|exact of_decide_eq_true (by first|(with_reducible assumption)|assumption)|(have e_:=(Kd.N_reads' HO_8.out).1;omega))
         obtain ⟨ua298_1,uc298_1,rfl,ul298_1,ge298_1⟩:=k87_openF hMe298
         have hv298_1:=hcc298 1 _ rfl
         rw [add_field _ _ 1 (by omega)] at hv298_1
         replace hv298_1:=Option.some.inj (hv298_1.symm.trans hx298_1)
         injection hv298_1 with hva_ hvn_ hvc_
         rw [hva_] at ge298_1
         rw [hvc_] at ul298_1
         have HL298_1:=Aside0.mk (show Kd.V (Kd.int .i64) 3 _ w.heap.size _ _ ((rd_T87 t294 x9_4).f1.f0) from Kd.V_mk ul298_1 ge298_1)
         clear hva_ hvn_ hvc_ ge298_1 ul298_1;clear hcc298 hce298
         have HR298_1:=Aside0.mk hi298_1
         have HC298_1:=Aside0.mk hl298_1
         clear hi298_1 hl298_1
         replace p298:=eq_true p298
         replace q298:=eq_true q298
         have ea_:=Option.some.inj (hx297_1.symm.trans hx298_1)
         injection ea_ with ea_ en_ ec_
         subst ea_
         subst ec_
         clear en_
         obtain ⟨Ao40,co40,eo40⟩:=Kd.R_slice HO_6.out
         subst eo40
         go_wp2_with (first|(go_at_call 60;(with_reducible refine (bursarref03_parsed.calls k4 _ _ x6_1 x7_1 _ _ ((rd_T87 t294 x9_4).f1.f0) t299 t300 _ ?side1 ?side2 ?side3 ?side4 A38.out).mono ?_);(case side1 => repeat (first|exact (Kd.R_reads' HO_6.out).2.2|(with_reducible refine Kd.C_alloc ?_ _)|(with_reducible refine Kd.C_drewN ?_ _)|(with_reducible refine Kd.C_drew ?_)));(case side2 => exact (Kd.R_reads' HO_6.out).2.1);(case side3 => repeat (first|exact (by repeat (first|(with_reducible exact HR298_1.out)|(with_reducible refine Kd.C_alloc ?_ _)|(with_reducible refine Kd.C_drewN ?_ _)|(with_reducible refine Kd.C_drew ?_)|exact HR298_1.out))|(with_reducible refine Kd.C_alloc ?_ _)|(with_reducible refine Kd.C_drewN ?_ _)|(with_reducible refine Kd.C_drew ?_)));(case side4 => exact HC298_1.out);rintro e w41 ⟨rfl,hb⟩;have n0_:=Aside0.mk (Kd.R_below (by (with_reducible repeat (first|apply Kd.R_alloc|apply Kd.R_drewN|apply Kd.R_drew));exact HO_6.out) hb);have n1_:=Aside0.mk (Kd.N_below (by (with_reducible repeat (first|apply Kd.N_alloc|apply Kd.N_drewN|apply Kd.N_drew));exact HO_8.out) hb);have n2_:=Aside0.mk (Kd.V_below (by (with_reducible repeat (first|apply Kd.V_alloc|apply Kd.V_drewN|apply Kd.V_drew));exact HL297_1.out) hb);have n3_:=Aside0.mk (Kd.V_below (by (with_reducible repeat (first|apply Kd.V_alloc|apply Kd.V_drewN|apply Kd.V_drew));exact HL298_1.out) hb);have n4_:=Aside0.mk (Kd.C_below (by repeat (first|(with_reducible exact HR297_1.out)|(with_reducible refine Kd.C_alloc ?_ _)|(with_reducible refine Kd.C_drewN ?_ _)|(with_reducible refine Kd.C_drew ?_)|exact HR297_1.out)) hb);have n5_:=Aside0.mk (Kd.C_below (by repeat (first|(with_reducible exact HR298_1.out)|(with_reducible refine Kd.C_alloc ?_ _)|(with_reducible refine Kd.C_drewN ?_ _)|(with_reducible refine Kd.C_drew ?_)|exact HR298_1.out)) hb);have n6_:=Aside0.mk (below_step (by repeat (first|(with_reducible first|exact HB.out|apply below_alloc|apply pw_below_drewN|apply below_drew1)|exact HB.out)) hb);clear HO_6;clear HO_8;clear HL297_1;clear HL298_1;clear HR297_1;clear HR298_1;clear HB;have HO_6:=n0_;have HO_8:=n1_;have HL297_1:=n2_;have HL298_1:=n3_;have HR297_1:=n4_;have HR298_1:=n5_;have HB:=n6_;clear n0_ n1_ n2_ n3_ n4_ n5_ n6_;(try clear hb);(try clear hb2);(try clear hk);(try clear hi)))
         repeat (go_quiet (first|(go_at_call 60;(with_reducible refine (bursarref03_parsed.calls k4 _ _ x6_1 x7_1 _ _ ((rd_T87 t294 x9_4).f1.f0) t299 t300 _ ?side1 ?side2 ?side3 ?side4 A38.out).mono ?_);(case side1 => repeat (first|exact (Kd.R_reads' HO_6.out).2.2|(with_reducible refine Kd.C_alloc ?_ _)|(with_reducible refine Kd.C_drewN ?_ _)|(with_reducible refine Kd.C_drew ?_)));(case side2 => exact (Kd.R_reads' HO_6.out).2.1);(case side3 => repeat (first|exact (by repeat (first|(with_reducible exact HR298_1.out)|(with_reducible refine Kd.C_alloc ?_ _)|(with_reducible refine Kd.C_drewN ?_ _)|(with_reducible refine Kd.C_drew ?_)|exact HR298_1.out))|(with_reducible refine Kd.C_alloc ?_ _)|(with_reducible refine Kd.C_drewN ?_ _)|(with_reducible refine Kd.C_drew ?_)));(case side4 => exact HC298_1.out);rintro e w41 ⟨rfl,hb⟩;have n0_:=Aside0.mk (Kd.R_below (by (with_reducible repeat (first|apply Kd.R_alloc|apply Kd.R_drewN|apply Kd.R_drew));exact HO_6.out) hb);have n1_:=Aside0.mk (Kd.N_below (by (with_reducible repeat (first|apply Kd.N_alloc|apply Kd.N_drewN|apply Kd.N_drew));exact HO_8.out) hb);have n2_:=Aside0.mk (Kd.V_below (by (with_reducible repeat (first|apply Kd.V_alloc|apply Kd.V_drewN|apply Kd.V_drew));exact HL297_1.out) hb);have n3_:=Aside0.mk (Kd.V_below (by (with_reducible repeat (first|apply Kd.V_alloc|apply Kd.V_drewN|apply Kd.V_drew));exact HL298_1.out) hb);have n4_:=Aside0.mk (Kd.C_below (by repeat (first|(with_reducible exact HR297_1.out)|(with_reducible refine Kd.C_alloc ?_ _)|(with_reducible refine Kd.C_drewN ?_ _)|(with_reducible refine Kd.C_drew ?_)|exact HR297_1.out)) hb);have n5_:=Aside0.mk (Kd.C_below (by repeat (first|(with_reducible exact HR298_1.out)|(with_reducible refine Kd.C_alloc ?_ _)|(with_reducible refine Kd.C_drewN ?_ _)|(with_reducible refine Kd.C_drew ?_)|exact HR298_1.out)) hb);have n6_:=Aside0.mk (below_step (by repeat (first|(with_reducible first|exact HB.out|apply below_alloc|apply pw_below_drewN|apply below_drew1)|exact HB.out)) hb);clear HO_6;clear HO_8;clear HL297_1;clear HL298_1;clear HR297_1;clear HR298_1;clear HB;have HO_6:=n0_;have HO_8:=n1_;have HL297_1:=n2_;have HL298_1:=n3_;have HR297_1:=n4_;have HR298_1:=n5_;have HB:=n6_;clear n0_ n1_ n2_ n3_ n4_ n5_ n6_;(try clear hb);(try clear hb2);(try clear hk);(try clear hi)));try go_wp2_with (first|(go_at_call 60;(with_reducible refine (bursarref03_parsed.calls k4 _ _ x6_1 x7_1 _ _ ((rd_T87 t294 x9_4).f1.f0) t299 t300 _ ?side1 ?side2 ?side3 ?side4 A38.out).mono ?_);(case side1 => repeat (first|exact (Kd.R_reads' HO_6.out).2.2|(with_reducible refine Kd.C_alloc ?_ _)|(with_reducible refine Kd.C_drewN ?_ _)|(with_reducible refine Kd.C_drew ?_)));(case side2 => exact (Kd.R_reads' HO_6.out).2.1);(case side3 => repeat (first|exact (by repeat (first|(with_reducible exact HR298_1.out)|(with_reducible refine Kd.C_alloc ?_ _)|(with_reducible refine Kd.C_drewN ?_ _)|(with_reducible refine Kd.C_drew ?_)|exact HR298_1.out))|(with_reducible refine Kd.C_alloc ?_ _)|(with_reducible refine Kd.C_drewN ?_ _)|(with_reducible refine Kd.C_drew ?_)));(case side4 => exact HC298_1.out);rintro e w41 ⟨rfl,hb⟩;have n0_:=Aside0.mk (Kd.R_below (by (with_reducible repeat (first|apply Kd.R_alloc|apply Kd.R_drewN|apply Kd.R_drew));exact HO_6.out) hb);have n1_:=Aside0.mk (Kd.N_below (by (with_reducible repeat (first|apply Kd.N_alloc|apply Kd.N_drewN|apply Kd.N_drew));exact HO_8.out) hb);have n2_:=Aside0.mk (Kd.V_below (by (with_reducible repeat (first|apply Kd.V_alloc|apply Kd.V_drewN|apply Kd.V_drew));exact HL297_1.out) hb);have n3_:=Aside0.mk (Kd.V_below (by (with_reducible repeat (first|apply Kd.V_alloc|apply Kd.V_drewN|apply Kd.V_drew));exact HL298_1.out) hb);have n4_:=Aside0.mk (Kd.C_below (by repeat (first|(with_reducible exact HR297_1.out)|(with_reducible refine Kd.C_alloc ?_ _)|(with_reducible refine Kd.C_drewN ?_ _)|(with_reducible refine Kd.C_drew ?_)|exact HR297_1.out)) hb);have n5_:=Aside0.mk (Kd.C_below (by repeat (first|(with_reducible exact HR298_1.out)|(with_reducible refine Kd.C_alloc ?_ _)|(with_reducible refine Kd.C_drewN ?_ _)|(with_reducible refine Kd.C_drew ?_)|exact HR298_1.out)) hb);have n6_:=Aside0.mk (below_step (by repeat (first|(with_reducible first|exact HB.out|apply below_alloc|apply pw_below_drewN|apply below_drew1)|exact HB.out)) hb);clear HO_6;clear HO_8;clear HL297_1;clear HL298_1;clear HR297_1;clear HR298_1;clear HB;have HO_6:=n0_;have HO_8:=n1_;have HL297_1:=n2_;have HL298_1:=n3_;have HR297_1:=n4_;have HR298_1:=n5_;have HB:=n6_;clear n0_ n1_ n2_ n3_ n4_ n5_ n6_;(try clear hb);(try clear hb2);(try clear hk);(try clear hi))))
         go_ret2
         exact ⟨by first|rfl|(simp [errW_none,errW_some] <;> rfl)|(simp [*,errW_none,errW_some] <;> rfl),by repeat (first|(with_reducible first|exact HB.out|apply below_alloc|apply pw_below_drewN|apply below_drew1)|exact HB.out)⟩
end Go.Proofs.YtejgbdclhlolkaaGreatDoor.Q
namespace Go.Proofs.YtejgbdclhlolkaaGreatDoor.Q
open Go.RowKit Go.Proofs.YtejgbdclhlolkaaGreatDoorW.PrintWords Go.Proofs.YtejgbdclhlolkaaGreatDoorW.PrintLast Go.Proofs.YtejgbdclhlolkaaGreatDoorW.PrintMore
attribute [local go_sem] max2_int min2_int max_two min_two max_three min_three max_four min_four   -- for this text's walks alone
set_option linter.unusedVariables false
set_option linter.unusedSimpArgs false
def bursarlaw03_QuantParses.f (k : Nat) (a0 : ByteArray) : Option (Bool) := (bursarlaw03_known.f k).bind fun t301 => (if t301 = true then ((quant_Parse.f k a0).bind fun bt302 => ((bursarref03_Parse.f k a0).bind fun bt304 => (if bt302.1 = bt304.1 then (some (bt302.2 == bt304.2)) else (some false)))) else (some false))
theorem bursarlaw03_QuantParses.mono : ∀ a0 k, LeO (bursarlaw03_QuantParses.f k a0) (bursarlaw03_QuantParses.f (k + 1) a0) := by
 intro a0 k
 unfold bursarlaw03_QuantParses.f
 repeat' first
  |(with_reducible exact bursarlaw03_known.mono _)
  |(with_reducible exact bursarref03_Parse.mono _ _)
  |(with_reducible exact quant_Parse.mono _ _)
  |(with_reducible exact LeO.refl _)
  |(with_reducible exact LeO.none _)
  |(with_reducible refine LeO.ite ?_ ?_)
  |(with_reducible refine LeO.bind ?_ (fun _ => ?_))
  |exact bursarlaw03_known.mono _
  |exact bursarref03_Parse.mono _ _
  |exact quant_Parse.mono _ _
  |exact LeO.none _
  |refine LeO.ite ?_ ?_
  |refine LeO.bind ?_ (fun _ => ?_)
set_option maxHeartbeats 8000000 in
set_option maxRecDepth 100000 in
theorem bursarlaw03_QuantParses.calls (k : Nat) (a0 : ByteArray) (r : Bool) (w : World) (h : bursarlaw03_QuantParses.f k a0 = some r) (hG : Glob w) :
  Calls Tryz.prog 3 #[.string a0] w fun e w' => e = .returned (.bool r) ∧ Below w.heap.size w w':=by
 have HB:=Aside0.mk (Below.refl w.heap.size w)
 have H : ((bursarlaw03_known.f k).bind fun t301 => (if t301 = true then ((quant_Parse.f k a0).bind fun bt302 => ((bursarref03_Parse.f k a0).bind fun bt304 => (if bt302.1 = bt304.1 then (some (bt302.2 == bt304.2)) else (some false)))) else (some false))) = some r:=h
 clear h
 replace H:=Option.bind_eq_some_iff.mp H
 obtain ⟨t301,A20,H⟩:=H
 replace H : (if t301 = true then ((quant_Parse.f k a0).bind fun bt302 => ((bursarref03_Parse.f k a0).bind fun bt304 => (if bt302.1 = bt304.1 then (some (bt302.2 == bt304.2)) else (some false)))) else (some false)) = some r:=H
 have A2:=Aside0.mk A20
 clear A20
 by_cases c3 : t301 = true
 rotate_left
 ·replace c3:=Bool.eq_false_iff.mpr c3
  subst c3
  have H1 : (some false) = some r:=by rw [if_neg (show ¬ (false = true) by decide)] at H;exact H
  clear H;have H:=H1;clear H1
  obtain rfl:=Option.some.inj H
  go_enter Tryz.func3,Tryz.ntmps3
  go_wp2_with (first|((with_reducible refine gate_callee (f:=16) rfl ?_);refine goesL_ (some 7) rfl rfl Tryz.func16 (by kernel_rfl) rfl #[] rfl (by (try simp only [List.map_toArray,List.map_cons,List.map_nil]);first|done|rfl|(simp only [List.length_drop,List.length_take];rfl)) ?_;(with_reducible refine (bursarlaw03_known.calls k  false _ A2.out (Glob.below hG (by repeat (first|(with_reducible first|exact HB.out|apply below_alloc|apply pw_below_drewN|apply below_drew1)|exact HB.out)))).mono ?_);rintro e w13 ⟨rfl,hb⟩;refine ⟨_,rfl,?_⟩;have n0_:=Aside0.mk (below_step (by repeat (first|(with_reducible first|exact HB.out|apply below_alloc|apply pw_below_drewN|apply below_drew1)|exact HB.out)) hb);clear HB;have HB:=n0_;clear n0_;(try clear hb);(try clear hb2);(try clear hk);(try clear hi)))
  go_ret
  exact ⟨by first|rfl|(simp [errW_none,errW_some] <;> rfl)|(simp [*,errW_none,errW_some] <;> rfl),by repeat (first|(with_reducible first|exact HB.out|apply below_alloc|apply pw_below_drewN|apply below_drew1)|exact HB.out)⟩
 subst c3
 have H1 : ((quant_Parse.f k a0).bind fun bt302 => ((bursarref03_Parse.f k a0).bind fun bt304 => (if bt302.1 = bt304.1 then (some (bt302.2 == bt304.2)) else (some false)))) = some r:=by rw [if_pos rfl] at H;exact H
 clear H;have H:=H1;clear H1
 replace H:=Option.bind_eq_some_iff.mp H
 obtain ⟨⟨t302,t303⟩,A40,H⟩:=H
 replace H : ((bursarref03_Parse.f k a0).bind fun bt304 => (if t302 = bt304.1 then (some (t303 == bt304.2)) else (some false))) = some r:=H
 have A4:=Aside0.mk A40
 clear A40
 replace H:=Option.bind_eq_some_iff.mp H
 obtain ⟨⟨t304,t305⟩,A50,H⟩:=H
 replace H : (if t302 = t304 then (some (t303 == t305)) else (some false)) = some r:=H
 have A5:=Aside0.mk A50
 clear A50
 by_cases c6 : t302 = t304
 rotate_left
 ·rw [if_neg c6] at H
  have c6b0 : (t302 == t304) = false:=beq_eq_false_iff_ne.mpr c6
  have c6b1 : (t302 != t304) = true:=bne_iff_ne.mpr c6
  obtain rfl:=Option.some.inj H
  go_enter Tryz.func3,Tryz.ntmps3
  go_wp2_with (first|((with_reducible refine gate_callee (f:=16) rfl ?_);refine goesL_ (some 7) rfl rfl Tryz.func16 (by kernel_rfl) rfl #[] rfl (by (try simp only [List.map_toArray,List.map_cons,List.map_nil]);first|done|rfl|(simp only [List.length_drop,List.length_take];rfl)) ?_;(with_reducible refine (bursarlaw03_known.calls k  true _ A2.out (Glob.below hG (by repeat (first|(with_reducible first|exact HB.out|apply below_alloc|apply pw_below_drewN|apply below_drew1)|exact HB.out)))).mono ?_);rintro e w10 ⟨rfl,hb⟩;refine ⟨_,rfl,?_⟩;have n0_:=Aside0.mk (below_step (by repeat (first|(with_reducible first|exact HB.out|apply below_alloc|apply pw_below_drewN|apply below_drew1)|exact HB.out)) hb);clear HB;have HB:=n0_;clear n0_;(try clear hb);(try clear hb2);(try clear hk);(try clear hi))|((with_reducible refine gate_callee (f:=17) rfl ?_);refine goesL_ (some 11) rfl rfl Tryz.func17 (by kernel_rfl) rfl #[.string a0] rfl (by (try simp only [List.map_toArray,List.map_cons,List.map_nil]);first|done|rfl|(simp only [List.length_drop,List.length_take];rfl)) ?_;(with_reducible refine (quant_Parse.calls k a0 t302 t303 _ A4.out (Glob.below hG (by repeat (first|(with_reducible first|exact HB.out|apply below_alloc|apply pw_below_drewN|apply below_drew1)|exact HB.out)))).mono ?_);rintro e w11 ⟨rfl,hb⟩;refine ⟨_,rfl,?_⟩;have n0_:=Aside0.mk (below_step (by repeat (first|(with_reducible first|exact HB.out|apply below_alloc|apply pw_below_drewN|apply below_drew1)|exact HB.out)) hb);clear HB;have HB:=n0_;clear n0_;(try clear hb);(try clear hb2);(try clear hk);(try clear hi))|((with_reducible refine gate_callee (f:=18) rfl ?_);refine goesL_ (some 16) rfl rfl Tryz.func18 (by kernel_rfl) rfl #[.string a0] rfl (by (try simp only [List.map_toArray,List.map_cons,List.map_nil]);first|done|rfl|(simp only [List.length_drop,List.length_take];rfl)) ?_;(with_reducible refine (bursarref03_Parse.calls k a0 t304 t305 _ A5.out).mono ?_);rintro e w12 ⟨rfl,hb⟩;refine ⟨_,rfl,?_⟩;have n0_:=Aside0.mk (below_step (by repeat (first|(with_reducible first|exact HB.out|apply below_alloc|apply pw_below_drewN|apply below_drew1)|exact HB.out)) hb);clear HB;have HB:=n0_;clear n0_;(try clear hb);(try clear hb2);(try clear hk);(try clear hi)))
  go_ret
  exact ⟨by first|rfl|(simp [errW_none,errW_some] <;> rfl)|(simp [*,errW_none,errW_some] <;> rfl),by repeat (first|(with_reducible first|exact HB.out|apply below_alloc|apply pw_below_drewN|apply below_drew1)|exact HB.out)⟩
 rw [if_pos c6] at H
 have c6b0 : (t302 == t304) = true:=beq_iff_eq.mpr c6
 have c6b1 : (t302 != t304) = false:=bne_eq_false_iff_eq.mpr c6
 clear c6
 obtain rfl:=Option.some.inj H
 go_enter Tryz.func3,Tryz.ntmps3
 go_wp2_with (first|((with_reducible refine gate_callee (f:=16) rfl ?_);refine goesL_ (some 7) rfl rfl Tryz.func16 (by kernel_rfl) rfl #[] rfl (by (try simp only [List.map_toArray,List.map_cons,List.map_nil]);first|done|rfl|(simp only [List.length_drop,List.length_take];rfl)) ?_;(with_reducible refine (bursarlaw03_known.calls k  true _ A2.out (Glob.below hG (by repeat (first|(with_reducible first|exact HB.out|apply below_alloc|apply pw_below_drewN|apply below_drew1)|exact HB.out)))).mono ?_);rintro e w7 ⟨rfl,hb⟩;refine ⟨_,rfl,?_⟩;have n0_:=Aside0.mk (below_step (by repeat (first|(with_reducible first|exact HB.out|apply below_alloc|apply pw_below_drewN|apply below_drew1)|exact HB.out)) hb);clear HB;have HB:=n0_;clear n0_;(try clear hb);(try clear hb2);(try clear hk);(try clear hi))|((with_reducible refine gate_callee (f:=17) rfl ?_);refine goesL_ (some 11) rfl rfl Tryz.func17 (by kernel_rfl) rfl #[.string a0] rfl (by (try simp only [List.map_toArray,List.map_cons,List.map_nil]);first|done|rfl|(simp only [List.length_drop,List.length_take];rfl)) ?_;(with_reducible refine (quant_Parse.calls k a0 t302 t303 _ A4.out (Glob.below hG (by repeat (first|(with_reducible first|exact HB.out|apply below_alloc|apply pw_below_drewN|apply below_drew1)|exact HB.out)))).mono ?_);rintro e w8 ⟨rfl,hb⟩;refine ⟨_,rfl,?_⟩;have n0_:=Aside0.mk (below_step (by repeat (first|(with_reducible first|exact HB.out|apply below_alloc|apply pw_below_drewN|apply below_drew1)|exact HB.out)) hb);clear HB;have HB:=n0_;clear n0_;(try clear hb);(try clear hb2);(try clear hk);(try clear hi))|((with_reducible refine gate_callee (f:=18) rfl ?_);refine goesL_ (some 16) rfl rfl Tryz.func18 (by kernel_rfl) rfl #[.string a0] rfl (by (try simp only [List.map_toArray,List.map_cons,List.map_nil]);first|done|rfl|(simp only [List.length_drop,List.length_take];rfl)) ?_;(with_reducible refine (bursarref03_Parse.calls k a0 t304 t305 _ A5.out).mono ?_);rintro e w9 ⟨rfl,hb⟩;refine ⟨_,rfl,?_⟩;have n0_:=Aside0.mk (below_step (by repeat (first|(with_reducible first|exact HB.out|apply below_alloc|apply pw_below_drewN|apply below_drew1)|exact HB.out)) hb);clear HB;have HB:=n0_;clear n0_;(try clear hb);(try clear hb2);(try clear hk);(try clear hi)))
 go_ret
 exact ⟨by first|rfl|(simp [errW_none,errW_some] <;> rfl)|(simp [*,errW_none,errW_some] <;> rfl),by repeat (first|(with_reducible first|exact HB.out|apply below_alloc|apply pw_below_drewN|apply below_drew1)|exact HB.out)⟩
end Go.Proofs.YtejgbdclhlolkaaGreatDoor.Q
namespace Go.Proofs.YtejgbdclhlolkaaGreatDoor.Q
open Go.RowKit Go.Proofs.YtejgbdclhlolkaaGreatDoorW.PrintWords Go.Proofs.YtejgbdclhlolkaaGreatDoorW.PrintLast
set_option linter.unusedVariables false
set_option linter.unusedSimpArgs false
set_option maxRecDepth 100000 in
theorem known_at : bursarlaw03_known.f 60 = some true := by decide +kernel
theorem known_ev : Ev (fun k => bursarlaw03_known.f k) true := Ev.of bursarlaw03_known.mono known_at
end Go.Proofs.YtejgbdclhlolkaaGreatDoor.Q
namespace Go.Proofs.YtejgbdclhlolkaaGreatDoor.Q
open Go.RowKit Go.Proofs.YtejgbdclhlolkaaGreatDoorW.PrintWords Go.Proofs.YtejgbdclhlolkaaGreatDoorW.PrintLast Go.Proofs.YtejgbdclhlolkaaGreatDoorW.PrintMore
attribute [local go_sem] max2_int min2_int max_two min_two max_three min_three max_four min_four   -- for this text's walks alone
set_option linter.unusedVariables false
set_option linter.unusedSimpArgs false
def bursarref03_Long_text.l0 : Nat → ByteArray → Int → List Int → Option (ByteArray)
|0,_,_,_ => none
|k + 1,x3,x4,x307000 => if x4 ≥ 0 then (if 0 ≤ x4 then (if x4 < (x307000.length : Int) then (if 0 ≤ (rd x307000 x4) then (if (rd x307000 x4) ≤ (wrap64 ((rd x307000 x4) + 1)) then (if (wrap64 ((rd x307000 x4) + 1)) ≤ 10 then (if x3.size + ((⟨#[48,49,50,51,52,53,54,55,56,57]⟩ : ByteArray).extract ((rd x307000 x4) : Int).toNat ((wrap64 ((rd x307000 x4) + 1)) : Int).toNat).size ≤ 9223372036854775807 then (bursarref03_Long_text.l0 k (x3 ++ ((⟨#[48,49,50,51,52,53,54,55,56,57]⟩ : ByteArray).extract ((rd x307000 x4) : Int).toNat ((wrap64 ((rd x307000 x4) + 1)) : Int).toNat)) (wrap64 (x4 - 1)) x307000) else (none)) else (none)) else (none)) else (none)) else (none)) else (none)) else (some x3)
def bursarref03_Long_text.f (k : Nat) (l0_0 : List Int) : Option (ByteArray) := if (l0_0.length : Int) = 0 then (some (⟨#[48]⟩ : ByteArray)) else (bursarref03_Long_text.l0 k (⟨#[]⟩ : ByteArray) (wrap64 ((l0_0.length : Int) - 1)) l0_0)
theorem bursarref03_Long_text.mono_l : ∀ k, (∀ y0 y1 y2, LeO (bursarref03_Long_text.l0 k y0 y1 y2) (bursarref03_Long_text.l0 (k + 1) y0 y1 y2))
|0 => fun _ _ _ r h => by simp [bursarref03_Long_text.l0] at h
|k + 1 => by
  have ih0:=bursarref03_Long_text.mono_l k
  ·intro y0 y1 y2
   unfold bursarref03_Long_text.l0
   repeat' first
  |(with_reducible exact ih0 _ _ _)
  |(with_reducible exact LeO.refl _)
  |(with_reducible exact LeO.none _)
  |(with_reducible refine LeO.ite ?_ ?_)
  |(with_reducible refine LeO.bind ?_ (fun _ => ?_))
  |exact ih0 _ _ _
  |exact LeO.none _
  |refine LeO.ite ?_ ?_
  |refine LeO.bind ?_ (fun _ => ?_)
theorem bursarref03_Long_text.mono : ∀ a0 k, LeO (bursarref03_Long_text.f k a0) (bursarref03_Long_text.f (k + 1) a0) := by
 intro a0 k
 have ih0:=bursarref03_Long_text.mono_l k
 unfold bursarref03_Long_text.f
 repeat' first
  |(with_reducible exact ih0 _ _ _)
  |(with_reducible exact LeO.refl _)
  |(with_reducible exact LeO.none _)
  |(with_reducible refine LeO.ite ?_ ?_)
  |(with_reducible refine LeO.bind ?_ (fun _ => ?_))
  |exact ih0 _ _ _
  |exact LeO.none _
  |refine LeO.ite ?_ ?_
  |refine LeO.bind ?_ (fun _ => ?_)
end Go.Proofs.YtejgbdclhlolkaaGreatDoor.Q
namespace Go.Proofs.YtejgbdclhlolkaaGreatDoor.Q
open Go.RowKit Go.Proofs.YtejgbdclhlolkaaGreatDoorW.PrintWords Go.Proofs.YtejgbdclhlolkaaGreatDoorW.PrintLast Go.Proofs.YtejgbdclhlolkaaGreatDoorW.PrintMore
attribute [local go_sem] max2_int min2_int max_two min_two max_three min_three max_four min_four   -- for this text's walks alone
set_option linter.unusedVariables false
set_option linter.unusedSimpArgs false
def bursarref03_Print.l0 : Nat → Int → List (S87) → ByteArray → ByteArray → Int → Option (ByteArray)
|0,_,_,_,_,_ => none
|k + 1,x0,x3,x4,x5,x6 => if x6 < (x3.length : Int) then ((bursarref03_long.f k x0).bind fun t316 => (if 0 ≤ x6 then ((bursarref03_Long_by.f k t316 ((rd_T87 x3 x6).f1.f0)).bind fun bt320 => (if (bt320.2.length : Int) > 0 then (bursarref03_Print.l0 k x0 x3 x4 x5 (wrap64 (x6 + 1))) else (if x6 < 7 then ((bursarref03_Long_text.f k bt320.1).bind fun t328 => (if t328.size + ((rd_T87 x3 x6).f0).size ≤ 9223372036854775807 then (bursarref03_Print.l0 k x0 x3 (t328 ++ ((rd_T87 x3 x6).f0)) x5 (wrap64 (x6 + 1))) else (none))) else ((bursarref03_Long_text.f k bt320.1).bind fun t330 => (if t330.size + ((rd_T87 x3 x6).f0).size ≤ 9223372036854775807 then (bursarref03_Print.l0 k x0 x3 x4 (t330 ++ ((rd_T87 x3 x6).f0)) (wrap64 (x6 + 1))) else (none)))))) else (none))) else (if x5.toList = ([] : List UInt8) then (some x4) else (if (x5.size : Int) < (x4.size : Int) then (some x5) else (some x4)))
def bursarref03_Print.f (k : Nat) (a0 : Int) : Option (ByteArray) := if a0 < 0 then (some (⟨#[]⟩ : ByteArray)) else (if (Int.tmod a0 1000) = 0 then (if a0 = 0 then (some (⟨#[48]⟩ : ByteArray)) else ((bursarref03_suffixes.f k).bind fun t313 => (bursarref03_Print.l0 k a0 t313 (⟨#[]⟩ : ByteArray) (⟨#[]⟩ : ByteArray) 1))) else ((bursarref03_long.f k a0).bind fun t309 => ((bursarref03_Long_text.f k t309).bind fun t312 => (if t312.size + 1 ≤ 9223372036854775807 then (some (t312 ++ (⟨#[109]⟩ : ByteArray))) else (none)))))
theorem bursarref03_Print.mono_l : ∀ k, (∀ y0 y1 y2 y3 y4, LeO (bursarref03_Print.l0 k y0 y1 y2 y3 y4) (bursarref03_Print.l0 (k + 1) y0 y1 y2 y3 y4))
|0 => fun _ _ _ _ _ r h => by simp [bursarref03_Print.l0] at h
|k + 1 => by
  have ih0:=bursarref03_Print.mono_l k
  ·intro y0 y1 y2 y3 y4
   unfold bursarref03_Print.l0
   repeat' first
  |(with_reducible exact ih0 _ _ _ _ _)
  |(with_reducible exact bursarref03_Long_by.mono _ _ _)
  |(with_reducible exact bursarref03_Long_text.mono _ _)
  |(with_reducible exact bursarref03_long.mono _ _)
  |(with_reducible exact bursarref03_suffixes.mono _)
  |(with_reducible exact LeO.refl _)
  |(with_reducible exact LeO.none _)
  |(with_reducible refine LeO.ite ?_ ?_)
  |(with_reducible refine LeO.bind ?_ (fun _ => ?_))
  |exact ih0 _ _ _ _ _
  |exact bursarref03_Long_by.mono _ _ _
  |exact bursarref03_Long_text.mono _ _
  |exact bursarref03_long.mono _ _
  |exact bursarref03_suffixes.mono _
  |exact LeO.none _
  |refine LeO.ite ?_ ?_
  |refine LeO.bind ?_ (fun _ => ?_)
theorem bursarref03_Print.mono : ∀ a0 k, LeO (bursarref03_Print.f k a0) (bursarref03_Print.f (k + 1) a0) := by
 intro a0 k
 have ih0:=bursarref03_Print.mono_l k
 unfold bursarref03_Print.f
 repeat' first
  |(with_reducible exact ih0 _ _ _ _ _)
  |(with_reducible exact bursarref03_Long_by.mono _ _ _)
  |(with_reducible exact bursarref03_Long_text.mono _ _)
  |(with_reducible exact bursarref03_long.mono _ _)
  |(with_reducible exact bursarref03_suffixes.mono _)
  |(with_reducible exact LeO.refl _)
  |(with_reducible exact LeO.none _)
  |(with_reducible refine LeO.ite ?_ ?_)
  |(with_reducible refine LeO.bind ?_ (fun _ => ?_))
  |exact ih0 _ _ _ _ _
  |exact bursarref03_Long_by.mono _ _ _
  |exact bursarref03_Long_text.mono _ _
  |exact bursarref03_long.mono _ _
  |exact bursarref03_suffixes.mono _
  |exact LeO.none _
  |refine LeO.ite ?_ ?_
  |refine LeO.bind ?_ (fun _ => ?_)
end Go.Proofs.YtejgbdclhlolkaaGreatDoor.Q
namespace Go.Proofs.LongLaw
set_option linter.unusedVariables false
set_option linter.unusedSimpArgs false
def dval : List Int → Int
  | [] => 0
  | d :: r => d + 10 * dval r
def Digits (l : List Int) : Prop := ∀ x ∈ l, 0 ≤ x ∧ x ≤ 9
def longL (n : Nat) : List Int := if h : n = 0 then [] else ((n % 10 : Nat) : Int) :: longL (n / 10)
termination_by n
decreasing_by omega
theorem longL_zero : longL 0 = [] := by unfold longL; simp
theorem longL_pos (n : Nat) (h : n ≠ 0) : longL n = ((n % 10 : Nat) : Int) :: longL (n / 10) := by rw [longL]; simp [h]
theorem dval_nonneg {l : List Int} (h : Digits l) : 0 ≤ dval l := by
  induction l with
  | nil => simp [dval]
  | cons d r ih =>
    have h1 := h d (by simp)
    have h2 := ih (fun x hx => h x (by simp [hx]))
    simp only [dval]; omega
theorem longL_digits (n : Nat) : Digits (longL n) := by
  induction n using Nat.strongRecOn with
  | _ n ih =>
    by_cases h : n = 0
    · subst h; rw [longL_zero]; intro x hx; cases hx
    · rw [longL_pos n h]
      intro x hx
      rcases List.mem_cons.1 hx with rfl | hx
      · omega
      · exact ih (n / 10) (by omega) x hx
theorem dval_longL (n : Nat) : dval (longL n) = n := by
  induction n using Nat.strongRecOn with
  | _ n ih =>
    by_cases h : n = 0
    · subst h; rw [longL_zero]; rfl
    · rw [longL_pos n h]
      simp only [dval]
      rw [ih (n / 10) (by omega)]
      omega
theorem dval_app (a b : List Int) : dval (a ++ b) = dval a + 10 ^ a.length * dval b := by
  induction a with
  | nil => simp [dval]
  | cons x a ih =>
    simp only [List.cons_append, dval, ih, List.length_cons, Int.pow_succ]
    rw [Int.mul_add, ← Int.mul_assoc, Int.mul_comm 10 (10 ^ a.length)]
    omega
theorem dval_lt {l : List Int} (h : Digits l) : dval l < 10 ^ l.length := by
  induction l with
  | nil => simp [dval]
  | cons d r ih =>
    have h1 := h d (by simp)
    have h2 := ih (fun x hx => h x (by simp [hx]))
    simp only [dval, List.length_cons, Int.pow_succ]
    omega
theorem longL_length_lt (n : Nat) : n < 10 ^ (longL n).length := by
  have := dval_lt (longL_digits n)
  rw [dval_longL] at this
  have e : ((10 : Int) ^ (longL n).length) = ((10 ^ (longL n).length : Nat) : Int) := by simp
  rw [e] at this
  omega
theorem longL_length_ge (n : Nat) (h : n ≠ 0) : 10 ^ ((longL n).length - 1) ≤ n := by
  induction n using Nat.strongRecOn with
  | _ n ih =>
    rw [longL_pos n h, List.length_cons, Nat.add_sub_cancel]
    by_cases h2 : n / 10 = 0
    · rw [h2, longL_zero]; simp; omega
    · have := ih (n / 10) (by omega) h2
      have e : (longL (n / 10)).length = ((longL (n / 10)).length - 1) + 1 := by rw [longL_pos _ h2]; simp
      rw [e, Nat.pow_succ]
      omega
theorem longL_length_mono {a b : Nat} (h : (longL a).length < (longL b).length) : a < b := by
  have h1 := longL_length_lt a
  have hb : b ≠ 0 := fun e => by rw [e, longL_zero] at h; simp at h
  have h2 := longL_length_ge b hb
  have h3 : 10 ^ (longL a).length ≤ 10 ^ ((longL b).length - 1) := Nat.pow_le_pow_right (by omega) (by omega)
  omega
theorem dval_take_succ (l : List Int) : ∀ i : Nat, dval (l.take (i + 1)) = dval (l.take i) + 10 ^ i * l.getD i 0 := by
  induction l with
  | nil => intro i; simp [dval]
  | cons d r ih =>
    intro i
    cases i with
    | zero => simp [dval]
    | succ i =>
      simp only [List.take_succ_cons, dval, List.getD_cons_succ]
      rw [ih i, Int.pow_succ, Int.mul_add, ← Int.mul_assoc, Int.mul_comm 10 (10 ^ i)]
      omega
theorem dval_drop_cons (l : List Int) (i : Nat) (h : i < l.length) : dval (l.drop i) = l.getD i 0 + 10 * dval (l.drop (i + 1)) := by
  rw [List.drop_eq_getElem_cons h]
  simp [dval, List.getD_eq_getElem?_getD, List.getElem?_eq_getElem h]
theorem dval_set (l : List Int) (x : Int) : ∀ i : Nat, i < l.length → dval (l.set i x) = dval l + 10 ^ i * (x - l.getD i 0) := by
  induction l with
  | nil => intro i h; simp at h
  | cons d r ih =>
    intro i h
    cases i with
    | zero => simp [dval]; omega
    | succ i =>
      simp only [List.set_cons_succ, dval, List.getD_cons_succ]
      rw [ih i (by simpa using h), Int.pow_succ, Int.mul_add, ← Int.mul_assoc, Int.mul_comm 10 (10 ^ i)]
      omega
theorem digits_snoc {l : List Int} {x : Int} (h : Digits l) (h0 : 0 ≤ x) (h1 : x ≤ 9) : Digits (l ++ [x]) := by
  intro y hy
  rcases List.mem_append.1 hy with hy | hy
  · exact h y hy
  · simp at hy; omega
theorem digits_set {l : List Int} {x : Int} (h : Digits l) (i : Nat) (h0 : 0 ≤ x) (h1 : x ≤ 9) : Digits (l.set i x) := by
  intro y hy
  rcases List.mem_or_eq_of_mem_set hy with hy | hy
  · exact h y hy
  · omega
theorem dval_snoc (l : List Int) (x : Int) : dval (l ++ [x]) = dval l + 10 ^ l.length * x := by rw [dval_app]; simp [dval]
theorem digits_get {l : List Int} (h : Digits l) (i : Nat) : 0 ≤ l.getD i 0 ∧ l.getD i 0 ≤ 9 := by
  by_cases hi : i < l.length
  · rw [List.getD_eq_getElem?_getD, List.getElem?_eq_getElem hi]
    exact h _ (List.getElem_mem hi)
  · rw [List.getD_eq_getElem?_getD, List.getElem?_eq_none (by omega)]
    simp
end Go.Proofs.LongLaw
namespace Go.Proofs.YtejgbdclhlolkaaGreatDoor.Q
open Go.RowKit Go.Proofs.YtejgbdclhlolkaaGreatDoorW.PrintWords Go.Proofs.YtejgbdclhlolkaaGreatDoorW.PrintLast Go.Proofs.LongLaw
set_option linter.unusedVariables false
set_option linter.unusedSimpArgs false
theorem w64_in {i : Int} (h0 : -9223372036854775808 ≤ i) (h1 : i ≤ 9223372036854775807) : wrap64 i = i := by unfold wrap64; omega
theorem rd_nat (l : List Int) (i : Nat) : rd l (i : Int) = l.getD i 0 := by
  first | rfl | simp [rd, rdOf]
theorem at_is (l : List Int) (i : Nat) : bursarref03_Long_at.f l (i : Int) = some (l.getD i 0) := by
  unfold bursarref03_Long_at.f
  by_cases h : i < l.length
  · rw [if_pos (by omega), if_pos (by omega), rd_nat]
  · rw [if_neg (by omega), List.getD_eq_getElem?_getD, List.getElem?_eq_none (by omega)]
    rfl
theorem long_l0 (n : Nat) : ∀ acc : List Int, n ≤ 9223372036854775807 → acc.length + (longL n).length < 17592186044416 → Ev (fun k => bursarref03_long.l0 k (n : Int) acc) (acc ++ longL n) := by
  induction n using Nat.strongRecOn with
  | _ n ih =>
    intro acc hn hl
    by_cases h : n = 0
    · subst h
      rw [longL_zero, List.append_nil]
      exact Ev.step (f := fun _ => some acc) (fun k => by simp only [bursarref03_long.l0]; rw [if_neg (by omega)]) (Ev.now _)
    · rw [longL_pos n h, List.length_cons] at hl
      rw [longL_pos n h]
      refine Ev.step (f := fun k => bursarref03_long.l0 k ((n / 10 : Nat) : Int) (acc ++ [((n % 10 : Nat) : Int)])) (fun k => ?_) ?_
      · simp only [bursarref03_long.l0]
        rw [if_pos (by omega), if_pos (by omega), Int.tdiv_eq_ediv_of_nonneg (by omega), Int.tmod_eq_emod_of_nonneg (by omega), w64_in (by omega) (by omega)]
        rfl
      · have := ih (n / 10) (by omega) (acc ++ [((n % 10 : Nat) : Int)]) (by omega) (by simp; omega)
        rw [List.append_assoc] at this
        exact this
theorem longL_le (m : Nat) : ∀ n, n < 10 ^ m → (longL n).length ≤ m := by
  induction m with
  | zero => intro n h; obtain rfl : n = 0 := by omega
            rw [longL_zero]; exact Nat.le_refl _
  | succ m ih =>
    intro n h
    by_cases h0 : n = 0
    · subst h0; rw [longL_zero]; exact Nat.zero_le _
    · rw [longL_pos n h0, List.length_cons]
      have := ih (n / 10) (by rw [Nat.pow_succ] at h; omega)
      omega
theorem long_ev (n : Nat) (h : n ≤ 9223372036854775807) : Ev (fun k => bursarref03_long.f k (n : Int)) (longL n) := by
  have := long_l0 n [] h (by have := longL_le 19 n (by omega); simp; omega)
  simpa [bursarref03_long.f] using this
theorem take_zero_cut (l : List Int) (i : Nat) (hd : Digits l) (hi : i < l.length) (h0 : l.getD i 0 = 0) : dval (l.take (i + 1)) = dval (l.take i) := by
  rw [dval_take_succ, h0]; simp
theorem digits_take {l : List Int} (h : Digits l) (i : Nat) : Digits (l.take i) := fun x hx => h x (List.mem_of_mem_take hx)
theorem digits_drop {l : List Int} (h : Digits l) (i : Nat) : Digits (l.drop i) := fun x hx => h x (List.mem_of_mem_drop hx)
theorem longL_dval : ∀ {l : List Int}, Digits l → (l = [] ∨ l.getD (l.length - 1) 0 ≠ 0) → longL (dval l).toNat = l
  | [], _, _ => by simp [dval, longL_zero]
  | d :: r, h, ht => by
    have h1 := h d (by simp)
    have hr : Digits r := fun x hx => h x (by simp [hx])
    have h3 := dval_nonneg hr
    simp only [dval]
    rcases ht with ht | ht
    · cases ht
    · cases r with
      | nil =>
        simp at ht
        have e : (d + 10 * dval []).toNat = d.toNat := by simp [dval]
        rw [e, longL_pos _ (by omega), show d.toNat / 10 = 0 by omega, longL_zero]
        congr 1
        omega
      | cons x s =>
        have ih := longL_dval hr (.inr (by simpa using ht))
        have hne : dval (x :: s) ≠ 0 := by
          intro e
          rw [e] at ih
          simp [longL_zero] at ih
        rw [longL_pos _ (by omega)]
        have e1 : (d + 10 * dval (x :: s)).toNat / 10 = (dval (x :: s)).toNat := by omega
        have e2 : (((d + 10 * dval (x :: s)).toNat % 10 : Nat) : Int) = d := by omega
        rw [e1, e2, ih]
theorem cut_l0 (l : List Int) (hd : Digits l) (hl : l.length < 4611686018427387904) : ∀ i : Nat, i ≤ l.length → Ev (fun k => bursarref03_cut.l0 k l (i : Int)) (longL (dval (l.take i)).toNat) := by
  intro i
  induction i with
  | zero =>
    intro _
    have e : longL (dval (l.take 0)).toNat = [] := by simp [dval, longL_zero]
    rw [e]
    exact Ev.step (f := fun _ => some []) (fun k => by simp only [bursarref03_cut.l0]; rw [if_neg (by omega), if_pos (by omega), if_pos (by omega)]; simp) (Ev.now _)
  | succ i ih =>
    intro hi
    have hw : wrap64 (((i + 1 : Nat) : Int) - 1) = (i : Int) := by rw [w64_in (by omega) (by omega)]; omega
    by_cases h0 : l.getD i 0 = 0
    · rw [take_zero_cut l i hd (by omega) h0]
      refine Ev.step (f := fun k => bursarref03_cut.l0 k l (i : Int)) (fun k => ?_) (ih (by omega))
      simp only [bursarref03_cut.l0]
      rw [hw, if_pos (by omega), if_pos (by omega), if_pos (by omega), rd_nat, if_pos h0]
    · have e : longL (dval (l.take (i + 1))).toNat = l.take (i + 1) := by
        refine longL_dval (digits_take hd _) (.inr ?_)
        rw [List.length_take, show min (i + 1) l.length = i + 1 by omega, Nat.add_sub_cancel]
        rw [List.getD_eq_getElem?_getD, List.getElem?_take_of_lt (by omega), ← List.getD_eq_getElem?_getD]
        exact h0
      rw [e]
      refine Ev.step (f := fun _ => some (l.take (i + 1))) (fun k => ?_) (Ev.now _)
      simp only [bursarref03_cut.l0]
      rw [hw, if_pos (by omega), if_pos (by omega), if_pos (by omega), rd_nat, if_neg h0, if_pos (by omega), if_pos (by omega)]
      rfl
theorem cut_ev (l : List Int) (hd : Digits l) (hl : l.length < 4611686018427387904) : Ev (fun k => bursarref03_cut.f k l) (longL (dval l).toNat) := by
  have := cut_l0 l hd hl l.length (Nat.le_refl _)
  rw [List.take_length] at this
  exact this
theorem dval_drop_getD (l : List Int) (i : Nat) : dval (l.drop i) = l.getD i 0 + 10 * dval (l.drop (i + 1)) := by
  by_cases h : i < l.length
  · exact dval_drop_cons l i h
  · rw [List.drop_eq_nil_of_le (by omega), List.drop_eq_nil_of_le (by omega), List.getD_eq_getElem?_getD, List.getElem?_eq_none (by omega)]
    simp [dval]
theorem getD_out (l : List Int) (i : Nat) (h : l.length ≤ i) : l.getD i 0 = 0 := by rw [List.getD_eq_getElem?_getD, List.getElem?_eq_none h]; rfl
theorem plus_step (A P c a A' b B' s : Int) (hs : s = c + a + b) : A + P * (s % 10) + P * 10 * (s / 10 + A' + B') = A + P * (c + (a + 10 * A') + (b + 10 * B')) := by
  have h : s = 10 * (s / 10) + s % 10 := by omega
  generalize s / 10 = q at *
  generalize s % 10 = r at *
  grind
theorem plus_l0 (a b : List Int) (ha : Digits a) (hb : Digits b) (hla : a.length < 1000000) (hlb : b.length < 1000000) (m : Nat) (hm : m = max a.length b.length) :
    ∀ (d i : Nat) (acc : List Int) (c : Int), Digits acc → acc.length = i → 0 ≤ c → c ≤ 1 → (c = 0 ∨ i ≤ m) → i + d = m + 1 →
      Ev (fun k => bursarref03_Long_plus.l0 k acc c (i : Int) a b) (longL (dval acc + 10 ^ i * (c + dval (a.drop i) + dval (b.drop i))).toNat) := by
  intro d
  induction d with
  | zero =>
    intro i acc c hA hi h0 h1 hc hd
    have hc0 : c = 0 := by omega
    subst hc0
    refine Ev.step (f := fun k => bursarref03_Long_plus.j1 k acc 0 (i : Int) false a b) (fun k => ?_) ?_
    · simp only [bursarref03_Long_plus.l0]
      rw [if_neg (by omega), if_neg (by omega)]
      rfl
    · have e : longL (dval acc + 10 ^ i * (0 + dval (a.drop i) + dval (b.drop i))).toNat = longL (dval acc).toNat := by
        rw [List.drop_eq_nil_of_le (by omega), List.drop_eq_nil_of_le (by omega)]
        simp [dval]
      rw [e]
      refine Ev.step (f := fun k => (bursarref03_cut.f k acc).bind fun t => some t) (fun k => ?_) (Ev.bind (cut_ev acc hA (by omega)) (Ev.now _))
      simp only [bursarref03_Long_plus.j1]
      rfl
  | succ d ih =>
    intro i acc c hA hi h0 h1 hc hd
    by_cases hgo : i < a.length ∨ i < b.length ∨ 0 < c
    · have ga := digits_get ha i
      have gb := digits_get hb i
      have za := getD_out a i
      have zb := getD_out b i
      have key := ih (i + 1) (acc ++ [(c + a.getD i 0 + b.getD i 0) % 10]) ((c + a.getD i 0 + b.getD i 0) / 10) (digits_snoc hA (by omega) (by omega)) (by simp [hi]) (by omega) (by omega) (by omega) (by omega)
      have e : dval (acc ++ [(c + a.getD i 0 + b.getD i 0) % 10]) + 10 ^ (i + 1) * ((c + a.getD i 0 + b.getD i 0) / 10 + dval (a.drop (i + 1)) + dval (b.drop (i + 1))) = dval acc + 10 ^ i * (c + dval (a.drop i) + dval (b.drop i)) := by
        rw [dval_snoc, hi, dval_drop_getD a i, dval_drop_getD b i, Int.pow_succ]
        exact plus_step _ _ _ _ _ _ _ _ rfl
      rw [e] at key
      refine Ev.step (f := fun k => bursarref03_Long_plus.j1 k acc c (i : Int) true a b) (fun k => ?_) (Ev.step (fun k => ?_) key)
      · simp only [bursarref03_Long_plus.l0]
        by_cases g1 : i < a.length
        · rw [if_pos (by omega)]
        · rw [if_neg (by omega)]
          by_cases g2 : i < b.length
          · rw [if_pos (by omega)]
          · rw [if_neg (by omega), decide_eq_true (by omega)]
      · simp only [bursarref03_Long_plus.j1]
        rw [if_pos trivial, at_is, at_is]
        simp only [Option.bind_some]
        rw [if_pos (by omega)]
        have w1 : wrap64 (wrap64 (a.getD i 0 + b.getD i 0) + c) = c + a.getD i 0 + b.getD i 0 := by
          rw [w64_in (i := a.getD i 0 + b.getD i 0) (by omega) (by omega), w64_in (by omega) (by omega)]; omega
        rw [w1, Int.tmod_eq_emod_of_nonneg (by omega), Int.tdiv_eq_ediv_of_nonneg (by omega), w64_in (i := (c + a.getD i 0 + b.getD i 0) / 10) (by omega) (by omega), w64_in (i := (i : Int) + 1) (by omega) (by omega)]
        rfl
    · have hc0 : c = 0 := by omega
      subst hc0
      refine Ev.step (f := fun k => bursarref03_Long_plus.j1 k acc 0 (i : Int) false a b) (fun k => ?_) ?_
      · simp only [bursarref03_Long_plus.l0]
        rw [if_neg (by omega), if_neg (by omega)]
        rfl
      · have e : longL (dval acc + 10 ^ i * (0 + dval (a.drop i) + dval (b.drop i))).toNat = longL (dval acc).toNat := by
          rw [List.drop_eq_nil_of_le (by omega), List.drop_eq_nil_of_le (by omega)]
          simp [dval]
        rw [e]
        refine Ev.step (f := fun k => (bursarref03_cut.f k acc).bind fun t => some t) (fun k => ?_) (Ev.bind (cut_ev acc hA (by omega)) (Ev.now _))
        simp only [bursarref03_Long_plus.j1]
        rfl
theorem plus_ev (n m : Nat) (hn : (longL n).length < 1000000) (hm : (longL m).length < 1000000) : Ev (fun k => bursarref03_Long_plus.f k (longL n) (longL m)) (longL (n + m)) := by
  have := plus_l0 (longL n) (longL m) (longL_digits n) (longL_digits m) hn hm _ rfl (max (longL n).length (longL m).length + 1) 0 [] 0 (by intro x hx; cases hx) rfl (by omega) (by omega) (.inl rfl) (by omega)
  simp only [dval, List.drop_zero, dval_longL] at this
  have e : (0 + 10 ^ 0 * (0 + (n : Int) + (m : Int))).toNat = n + m := by simp; omega
  rw [e] at this
  exact this
theorem pow_pos10 (i : Nat) : (0 : Int) < 10 ^ i := by
  have : (10 : Int) ^ i = ((10 ^ i : Nat) : Int) := by simp
  rw [this]
  have := Nat.pow_pos (n := i) (show 0 < 10 by decide)
  omega
theorem less_top (P A B a b : Int) (hA : 0 ≤ A) (hAP : A < P) (hB : 0 ≤ B) (hBP : B < P) (hab : a < b) : A + P * a < B + P * b := by
  have h : P * a + P ≤ P * b := by
    have : P * (a + 1) ≤ P * b := Int.mul_le_mul_of_nonneg_left (by omega) (by omega)
    rw [Int.mul_add, Int.mul_one] at this
    exact this
  omega
theorem less_l0 (a b : List Int) (ha : Digits a) (hb : Digits b) (hl : a.length = b.length) (hla : a.length < 1000000) :
    ∀ i : Nat, i ≤ a.length → Ev (fun k => bursarref03_Long_less.l0 k ((i : Int) - 1) a b) (decide (dval (a.take i) < dval (b.take i))) := by
  intro i
  induction i with
  | zero =>
    intro _
    have e : decide (dval (a.take 0) < dval (b.take 0)) = false := by simp [dval]
    rw [e]
    refine Ev.step (f := fun _ => some false) (fun k => ?_) (Ev.now _)
    simp only [bursarref03_Long_less.l0]
    rw [if_neg (by omega)]
  | succ i ih =>
    intro hi
    have e1 : (((i + 1 : Nat) : Int) - 1) = (i : Int) := by omega
    rw [e1, dval_take_succ, dval_take_succ]
    by_cases h : a.getD i 0 = b.getD i 0
    · have e2 : decide (dval (a.take i) + 10 ^ i * a.getD i 0 < dval (b.take i) + 10 ^ i * b.getD i 0) = decide (dval (a.take i) < dval (b.take i)) := by
        rw [h]; congr 1; simp
      rw [e2]
      refine Ev.step (f := fun k => bursarref03_Long_less.l0 k ((i : Int) - 1) a b) (fun k => ?_) (ih (by omega))
      simp only [bursarref03_Long_less.l0]
      rw [if_pos (by omega), if_pos (by omega), if_pos (by omega), if_pos (by omega), rd_nat, rd_nat, if_pos h, w64_in (by omega) (by omega)]
    · have e2 : decide (dval (a.take i) + 10 ^ i * a.getD i 0 < dval (b.take i) + 10 ^ i * b.getD i 0) = decide (a.getD i 0 < b.getD i 0) := by
        have hA := dval_nonneg (digits_take ha i)
        have hB := dval_nonneg (digits_take hb i)
        have hAP := dval_lt (digits_take ha i)
        have hBP := dval_lt (digits_take hb i)
        rw [List.length_take, show min i a.length = i by omega] at hAP
        rw [List.length_take, show min i b.length = i by omega] at hBP
        by_cases hlt : a.getD i 0 < b.getD i 0
        · rw [decide_eq_true hlt, decide_eq_true (less_top _ _ _ _ _ hA hAP hB hBP hlt)]
        · rw [decide_eq_false hlt, decide_eq_false]
          have := less_top _ _ _ _ _ hB hBP hA hAP (show b.getD i 0 < a.getD i 0 by omega)
          omega
      rw [e2]
      refine Ev.step (f := fun _ => some (decide (a.getD i 0 < b.getD i 0))) (fun k => ?_) (Ev.now _)
      simp only [bursarref03_Long_less.l0]
      rw [if_pos (by omega), if_pos (by omega), if_pos (by omega), if_pos (by omega), rd_nat, rd_nat, if_neg h]
theorem less_ev (n m : Nat) (hn : (longL n).length < 1000000) (hm : (longL m).length < 1000000) : Ev (fun k => bursarref03_Long_less.f k (longL n) (longL m)) (decide (n < m)) := by
  by_cases h : (longL n).length = (longL m).length
  · have := less_l0 (longL n) (longL m) (longL_digits n) (longL_digits m) h hn (longL n).length (Nat.le_refl _)
    rw [List.take_length, h, List.take_length, dval_longL, dval_longL] at this
    have e : decide ((n : Int) < (m : Int)) = decide (n < m) := by congr 1; simp
    rw [e] at this
    refine Ev.congr (fun k => ?_) this
    unfold bursarref03_Long_less.f
    rw [if_pos (by omega), w64_in (by omega) (by omega), h]
  · refine Ev.congr (f := fun _ => some (decide (n < m))) (fun k => ?_) (Ev.now _)
    unfold bursarref03_Long_less.f
    rw [if_neg (by omega)]
    congr 1
    by_cases hlt : (longL n).length < (longL m).length
    · rw [decide_eq_true (show ((longL n).length : Int) < ((longL m).length : Int) by omega), decide_eq_true (longL_length_mono hlt)]
    · have := longL_length_mono (a := m) (b := n) (by omega)
      rw [decide_eq_false (show ¬ ((longL n).length : Int) < ((longL m).length : Int) by omega), decide_eq_false (by omega)]
theorem minus_step (A P c a A' b B' s : Int) (hs : s = a - b - c) : A + P * s + P * 10 * (A' - B' - 0) = A + P * (a + 10 * A' - (b + 10 * B') - c) := by
  subst hs; grind
theorem minus_step1 (A P c a A' b B' s : Int) (hs : s = a - b - c) : A + P * (s + 10) + P * 10 * (A' - B' - 1) = A + P * (a + 10 * A' - (b + 10 * B') - c) := by
  subst hs; grind
theorem minus_l0 (a b : List Int) (ha : Digits a) (hb : Digits b) (hla : a.length < 1000000) (hlb : b.length < 1000000) (hlen : b.length ≤ a.length) :
    ∀ (d i : Nat) (acc : List Int) (c : Int), Digits acc → acc.length = i → 0 ≤ c → c ≤ 1 → i + d = a.length → 0 ≤ dval (a.drop i) - dval (b.drop i) - c →
      Ev (fun k => bursarref03_Long_minus.l0 k acc c (i : Int) a b) (longL (dval acc + 10 ^ i * (dval (a.drop i) - dval (b.drop i) - c)).toNat) := by
  intro d
  induction d with
  | zero =>
    intro i acc c hA hi h0 h1 hd hge
    rw [List.drop_eq_nil_of_le (by omega), List.drop_eq_nil_of_le (by omega)] at hge ⊢
    have hc0 : c = 0 := by simp [dval] at hge; omega
    subst hc0
    have e : longL (dval acc + 10 ^ i * (dval [] - dval [] - 0)).toNat = longL (dval acc).toNat := by simp [dval]
    rw [e]
    refine Ev.step (f := fun k => (bursarref03_cut.f k acc).bind fun t => some t) (fun k => ?_) (Ev.bind (cut_ev acc hA (by omega)) (Ev.now _))
    simp only [bursarref03_Long_minus.l0]
    rw [if_neg (by omega)]
  | succ d ih =>
    intro i acc c hA hi h0 h1 hd hge
    have ga := digits_get ha i
    have gb := digits_get hb i
    rw [dval_drop_getD a i, dval_drop_getD b i] at hge ⊢
    have hw : ∀ k, bursarref03_Long_minus.l0 (k + 1) acc c (i : Int) a b = if a.getD i 0 - b.getD i 0 - c < 0 then bursarref03_Long_minus.l0 k (acc ++ [a.getD i 0 - b.getD i 0 - c + 10]) 1 ((i + 1 : Nat) : Int) a b else bursarref03_Long_minus.l0 k (acc ++ [a.getD i 0 - b.getD i 0 - c]) 0 ((i + 1 : Nat) : Int) a b := by
      intro k
      simp only [bursarref03_Long_minus.l0]
      rw [if_pos (by omega), if_pos (by omega), at_is]
      simp only [Option.bind_some, rd_nat]
      rw [w64_in (i := a.getD i 0 - b.getD i 0) (by omega) (by omega), w64_in (i := a.getD i 0 - b.getD i 0 - c) (by omega) (by omega), w64_in (i := a.getD i 0 - b.getD i 0 - c + 10) (by omega) (by omega), w64_in (i := (i : Int) + 1) (by omega) (by omega), if_pos (show acc.length < 17592186044416 by omega), if_pos (show acc.length < 17592186044416 by omega)]
      rfl
    by_cases hneg : a.getD i 0 - b.getD i 0 - c < 0
    · have key := ih (i + 1) (acc ++ [a.getD i 0 - b.getD i 0 - c + 10]) 1 (digits_snoc hA (by omega) (by omega)) (by simp [hi]) (by omega) (by omega) (by omega) (by omega)
      rw [dval_snoc, hi, Int.pow_succ, minus_step1 _ _ c (a.getD i 0) _ (b.getD i 0) _ _ rfl] at key
      exact Ev.step (fun k => by rw [hw, if_pos hneg]) key
    · have key := ih (i + 1) (acc ++ [a.getD i 0 - b.getD i 0 - c]) 0 (digits_snoc hA (by omega) (by omega)) (by simp [hi]) (by omega) (by omega) (by omega) (by omega)
      rw [dval_snoc, hi, Int.pow_succ, minus_step _ _ c (a.getD i 0) _ (b.getD i 0) _ _ rfl] at key
      exact Ev.step (fun k => by rw [hw, if_neg hneg]) key
theorem longL_mono {n m : Nat} (h : n ≤ m) : (longL n).length ≤ (longL m).length := by
  rcases Nat.lt_or_ge (longL m).length (longL n).length with hl | hl
  · have := longL_length_mono hl; omega
  · exact hl
theorem minus_ev (n m : Nat) (hle : m ≤ n) (hn : (longL n).length < 1000000) : Ev (fun k => bursarref03_Long_minus.f k (longL n) (longL m)) (longL (n - m)) := by
  have hm := longL_mono hle
  have := minus_l0 (longL n) (longL m) (longL_digits n) (longL_digits m) hn (by omega) hm (longL n).length 0 [] 0 (by intro x hx; cases hx) rfl (by omega) (by omega) (by omega) (by simp only [List.drop_zero, dval_longL]; omega)
  simp only [dval, List.drop_zero, dval_longL] at this
  have e : (0 + 10 ^ 0 * ((n : Int) - (m : Int) - 0)).toNat = n - m := by rw [show (10 : Int) ^ 0 = 1 from rfl]; omega
  rw [e] at this
  exact this
theorem value_l0 (a : List Int) (ha : Digits a) (hla : a.length < 1000000) (hv : dval a ≤ 9223372036854775807) :
    ∀ (i : Nat), i ≤ a.length → Ev (fun k => bursarref03_Long_value.l0 k (dval (a.drop i)) ((i : Int) - 1) a) (dval a, true) := by
  intro i
  induction i with
  | zero =>
    intro _
    rw [List.drop_zero]
    refine Ev.step (f := fun _ => some (dval a, true)) (fun k => ?_) (Ev.now _)
    simp only [bursarref03_Long_value.l0]
    rw [if_neg (by omega)]
  | succ i ih =>
    intro hi
    have h0 := dval_drop_getD a i
    have hge := dval_nonneg (digits_drop ha (i + 1))
    have ga := digits_get ha i
    have hup : dval (a.drop i) ≤ dval a := by
      have h1 := dval_app (a.take i) (a.drop i)
      rw [List.take_append_drop] at h1
      have h2 := dval_nonneg (digits_take ha i)
      have h3 := dval_nonneg (digits_drop ha i)
      have h4 : dval (a.drop i) * 1 ≤ dval (a.drop i) * 10 ^ (a.take i).length := Int.mul_le_mul_of_nonneg_left (by have := pow_pos10 (a.take i).length; omega) h3
      rw [Int.mul_comm (dval (a.drop i)) (10 ^ _)] at h4
      omega
    refine Ev.step (f := fun k => bursarref03_Long_value.l0 k (dval (a.drop i)) ((i : Int) - 1) a) (fun k => ?_) (ih (by omega))
    simp only [bursarref03_Long_value.l0]
    have e1 : (((i + 1 : Nat) : Int) - 1) = (i : Int) := by omega
    rw [e1, if_pos (by omega), if_pos (by omega), if_pos (by omega), rd_nat, w64_in (i := dval (a.drop (i + 1)) * 10) (by omega) (by omega), w64_in (i := (i : Int) - 1) (by omega) (by omega), w64_in (by omega) (by omega)]
    congr 1
    omega
theorem value_ev (n : Nat) (hn : (longL n).length < 1000000) : Ev (fun k => bursarref03_Long_value.f k (longL n)) (if n ≤ 9223372036854775807 then ((n : Int), true) else (0, false)) := by
  refine Ev.congr (fun k => rfl) (Ev.bind (long_ev 9223372036854775807 (Nat.le_refl _)) (Ev.bind (less_ev 9223372036854775807 n (by have := longL_le 19 9223372036854775807 (by decide); omega) hn) ?_))
  by_cases h : n ≤ 9223372036854775807
  · rw [if_pos h]
    have := value_l0 (longL n) (longL_digits n) hn (by rw [dval_longL]; omega) (longL n).length (Nat.le_refl _)
    rw [List.drop_length, dval_longL] at this
    refine Ev.congr (fun k => ?_) this
    rw [decide_eq_false (by omega), if_neg Bool.false_ne_true, w64_in (by omega) (by omega)]
    rfl
  · rw [if_neg h]
    refine Ev.congr (f := fun _ => some (0, false)) (fun k => ?_) (Ev.now _)
    rw [decide_eq_true (by omega), if_pos rfl]
end Go.Proofs.YtejgbdclhlolkaaGreatDoor.Q
namespace Go.Proofs.YtejgbdclhlolkaaGreatDoor.Q
open Go.RowKit Go.Proofs.YtejgbdclhlolkaaGreatDoorW.PrintWords Go.Proofs.YtejgbdclhlolkaaGreatDoorW.PrintLast Go.Proofs.LongLaw
set_option linter.unusedVariables false
set_option linter.unusedSimpArgs false
theorem set_get (l : List Int) (i : Nat) (x : Int) (h : i < l.length) (p : Nat) : (l.set i x).getD p 0 = if p = i then x else l.getD p 0 := by
  rw [List.getD_eq_getElem?_getD, List.getElem?_set]
  by_cases e : i = p
  · subst e; rw [if_pos rfl, if_pos h, if_pos rfl]; rfl
  · rw [if_neg e, if_neg (fun h => e h.symm), List.getD_eq_getElem?_getD]
theorem times_step (D P Q a A B b c s x : Int) (hs : s = x + a * b + c) : D + P * Q * (s % 10 - x) + P * (Q * 10) * (s / 10) = D + P * Q * c + P * a * (Q * b) := by
  have h : s = 10 * (s / 10) + s % 10 := by omega
  generalize s / 10 = q at *
  generalize s % 10 = r at *
  grind
theorem times_word (a b d : List Int) (i j : Nat) (c s : Int) (hla : a.length < 100000) (hlb : b.length < 100000) (hi : i < a.length) (hjb : j ≤ b.length) (hdl : d.length = a.length + b.length + 1) (hgo : j < b.length ∨ 0 < c)
    (hx0 : 0 ≤ d.getD (i + j) 0) (hx9 : d.getD (i + j) 0 ≤ 9) (hp0 : 0 ≤ a.getD i 0 * b.getD j 0) (hp9 : a.getD i 0 * b.getD j 0 ≤ 81) (h0 : 0 ≤ c) (h9 : c ≤ 9) (hs : s = d.getD (i + j) 0 + a.getD i 0 * b.getD j 0 + c) (k : Nat) :
    bursarref03_Long_times.l1 (k + 1) d (i : Int) c (j : Int) a b = bursarref03_Long_times.l1 k (d.set (i + j) (s % 10)) (i : Int) (s / 10) ((j + 1 : Nat) : Int) a b := by
  have b1 : 0 ≤ s := by omega
  have b2 : s ≤ 99 := by omega
  have i1 : (0 : Int) ≤ ((i + j : Nat) : Int) := by omega
  have i2 : ((i + j : Nat) : Int) < (d.length : Int) := by omega
  have i3 : (0 : Int) ≤ (i : Int) := by omega
  have i4 : (i : Int) < (a.length : Int) := by omega
  have key : ∀ {α : Type} (x y z : α), (if (j : Int) < (b.length : Int) then (if (0 : Int) ≤ ((i + j : Nat) : Int) then (if ((i + j : Nat) : Int) < (d.length : Int) then (if (0 : Int) ≤ (i : Int) then (if (i : Int) < (a.length : Int) then x else z) else z) else z) else z) else
      (if c > 0 then (if (0 : Int) ≤ ((i + j : Nat) : Int) then (if ((i + j : Nat) : Int) < (d.length : Int) then (if (0 : Int) ≤ (i : Int) then (if (i : Int) < (a.length : Int) then x else z) else z) else z) else z) else y)) = x := by
    intro α x y z
    rw [if_pos i1, if_pos i2, if_pos i3, if_pos i4]
    by_cases h1 : j < b.length
    · rw [if_pos (show (j : Int) < (b.length : Int) by omega)]
    · rw [if_neg (show ¬ (j : Int) < (b.length : Int) by omega), if_pos (show c > 0 by omega)]
  have e3 : wrap64 ((j : Int) + 1) = ((j + 1 : Nat) : Int) := by rw [w64_in (by omega) (by omega)]; rfl
  have e4 : wrap64 (s / 10) = s / 10 := w64_in (by omega) (by omega)
  have e1 : wrap64 ((i : Int) + (j : Int)) = ((i + j : Nat) : Int) := by rw [w64_in (by omega) (by omega)]; rfl
  have e5 : wrap64 (a.getD i 0 * b.getD j 0) = a.getD i 0 * b.getD j 0 := w64_in (by omega) (by omega)
  have e6 : wrap64 (d.getD (i + j) 0 + a.getD i 0 * b.getD j 0) = d.getD (i + j) 0 + a.getD i 0 * b.getD j 0 := w64_in (by omega) (by omega)
  have e7 : wrap64 (d.getD (i + j) 0 + a.getD i 0 * b.getD j 0 + c) = s := by rw [← hs]; exact w64_in (by omega) (by omega)
  simp only [bursarref03_Long_times.l1]
  rw [e1, at_is, rd_nat, rd_nat]
  simp only [Option.bind_some]
  rw [e5, e6, e7, Int.tmod_eq_emod_of_nonneg b1, Int.tdiv_eq_ediv_of_nonneg b1, e4, e3, Int.toNat_natCast]
  exact key _ _ _
theorem times_l1 (a b : List Int) (ha : Digits a) (hb : Digits b) (hla : a.length < 100000) (hlb : b.length < 100000) (res : List Int) (i : Nat) (hi : i < a.length)
    (hK : ∀ d : List Int, Digits d → d.length = a.length + b.length + 1 → dval d = dval (a.take (i + 1)) * dval b → (∀ p, i + 1 + b.length ≤ p → d.getD p 0 = 0) → Ev (fun k => bursarref03_Long_times.l0 k d ((i + 1 : Nat) : Int) a b) res) :
    ∀ (m j : Nat) (d : List Int) (c : Int), j + m = b.length + 1 → Digits d → d.length = a.length + b.length + 1 → 0 ≤ c → c ≤ 9 → (j = b.length + 1 → c = 0) →
      dval d + 10 ^ i * 10 ^ j * c = dval (a.take i) * dval b + 10 ^ i * a.getD i 0 * dval (b.take j) → (∀ p, i + (if j ≤ b.length then b.length else b.length + 1) ≤ p → d.getD p 0 = 0) →
      Ev (fun k => bursarref03_Long_times.l1 k d (i : Int) c (j : Int) a b) res := by
  intro m
  induction m with
  | zero =>
    intro j d c hj hD hdl h0 h9 hc hv hz
    have hc0 := hc (by omega)
    subst hc0
    rw [show b.take j = b from List.take_of_length_le (by omega)] at hv
    refine Ev.step (fun k => ?_) (hK d hD hdl ?_ ?_)
    · simp only [bursarref03_Long_times.l1]
      rw [if_neg (by omega), if_neg (by omega), w64_in (by omega) (by omega)]
      rfl
    · rw [dval_take_succ, Int.add_mul]; simpa using hv
    · intro p hp; exact hz p (by split <;> omega)
  | succ m ih =>
    intro j d c hj hD hdl h0 h9 hc hv hz
    have HV := Lib.hid hv
    clear hv
    have ga := digits_get ha i
    have gb := digits_get hb j
    have gd := digits_get hD (i + j)
    by_cases hgo : j < b.length ∨ 0 < c
    · have hprod0 : 0 ≤ a.getD i 0 * b.getD j 0 := Int.mul_nonneg ga.1 gb.1
      have hprod9 : a.getD i 0 * b.getD j 0 ≤ 81 := by
        have h1 : a.getD i 0 * b.getD j 0 ≤ 9 * b.getD j 0 := Int.mul_le_mul_of_nonneg_right ga.2 gb.1
        omega
      have hjb : j ≤ b.length := by omega
      have hzb : b.length ≤ j → b.getD j 0 = 0 := getD_out b j
      have hzd : b.length ≤ j → d.getD (i + j) 0 = 0 := fun h => hz (i + j) (by rw [if_pos hjb]; omega)
      have hp0 : b.length ≤ j → a.getD i 0 * b.getD j 0 = 0 := fun h => by rw [hzb h, Int.mul_zero]
      obtain ⟨s, hs⟩ : ∃ s, s = d.getD (i + j) 0 + a.getD i 0 * b.getD j 0 + c := ⟨_, rfl⟩
      have hidx : i + j < d.length := by omega
      have key := ih (j + 1) (d.set (i + j) (s % 10)) (s / 10) (by omega) (digits_set hD _ (by omega) (by omega)) (by rw [List.length_set]; exact hdl) (by omega) (by omega) (by intro h; have := hp0 (by omega); have := hzd (by omega); omega) ?_ ?_
      · exact Ev.step (times_word a b d i j c s hla hlb hi hjb hdl hgo gd.1 gd.2 hprod0 hprod9 h0 h9 hs) key
      · rw [dval_set d (s % 10) (i + j) hidx, dval_take_succ, Int.pow_add, Int.pow_succ, times_step (dval d) (10 ^ i) (10 ^ j) (a.getD i 0) 0 0 (b.getD j 0) c s (d.getD (i + j) 0) hs, HV.out, Int.mul_add]
        omega
      · intro p hp
        rw [set_get d (i + j) _ hidx, if_neg (by split at hp <;> omega)]
        exact hz p (by rw [if_pos hjb]; split at hp <;> omega)
    · have hc0 : c = 0 := by omega
      subst hc0
      have hv := HV.out
      rw [show b.take j = b from List.take_of_length_le (by omega)] at hv
      refine Ev.step (fun k => ?_) (hK d hD hdl ?_ ?_)
      · simp only [bursarref03_Long_times.l1]
        rw [if_neg (by omega), if_neg (by omega), w64_in (by omega) (by omega)]
        rfl
      · rw [dval_take_succ, Int.add_mul]; simpa using hv
      · intro p hp; exact hz p (by split <;> omega)
theorem times_l0 (a b : List Int) (ha : Digits a) (hb : Digits b) (hla : a.length < 100000) (hlb : b.length < 100000) :
    ∀ (m i : Nat) (d : List Int), i + m = a.length → Digits d → d.length = a.length + b.length + 1 → dval d = dval (a.take i) * dval b → (∀ p, i + b.length ≤ p → d.getD p 0 = 0) →
      Ev (fun k => bursarref03_Long_times.l0 k d (i : Int) a b) (longL (dval a * dval b).toNat) := by
  intro m
  induction m with
  | zero =>
    intro i d hi hD hdl hv hz
    rw [List.take_of_length_le (by omega)] at hv
    rw [← hv]
    refine Ev.step (f := fun k => (bursarref03_cut.f k d).bind fun t => some t) (fun k => ?_) (Ev.bind (cut_ev d hD (by omega)) (Ev.now _))
    simp only [bursarref03_Long_times.l0]
    rw [if_neg (by omega)]
  | succ m ih =>
    intro i d hi hD hdl hv hz
    refine Ev.step (f := fun k => bursarref03_Long_times.l1 k d (i : Int) 0 ((0 : Nat) : Int) a b) (fun k => ?_) ?_
    · simp only [bursarref03_Long_times.l0]
      rw [if_pos (by omega)]
      rfl
    · refine times_l1 a b ha hb hla hlb _ i (by omega) (fun d' hD' hl' hv' hz' => ih (i + 1) d' (by omega) hD' hl' hv' hz') (b.length + 1) 0 d 0 (by omega) hD hdl (by omega) (by omega) (by omega) ?_ ?_
      · rw [hv]; simp [dval]
      · intro p hp; rw [if_pos (by omega)] at hp; exact hz p hp
theorem digits_zero (n : Nat) : Digits (List.replicate n 0) := fun x hx => by rw [List.eq_of_mem_replicate hx]; omega
theorem dval_zero (n : Nat) : dval (List.replicate n 0) = 0 := by
  induction n with
  | zero => rfl
  | succ n ih => rw [List.replicate_succ, dval, ih]; rfl
theorem getD_zero (n p : Nat) : (List.replicate n (0 : Int)).getD p 0 = 0 := by
  rw [List.getD_eq_getElem?_getD, List.getElem?_replicate]
  split <;> rfl
theorem times_ev (n m : Nat) (hn : (longL n).length < 100000) (hm : (longL m).length < 100000) : Ev (fun k => bursarref03_Long_times.f k (longL n) (longL m)) (longL (n * m)) := by
  have := times_l0 (longL n) (longL m) (longL_digits n) (longL_digits m) hn hm (longL n).length 0 (List.replicate ((longL n).length + (longL m).length + 1) 0) (by omega) (digits_zero _) (by simp) (by rw [dval_zero]; simp [dval]) (fun p _ => getD_zero _ _)
  rw [dval_longL, dval_longL, ← Int.natCast_mul, Int.toNat_natCast] at this
  refine Ev.congr (fun k => ?_) this
  unfold bursarref03_Long_times.f
  have e : wrap64 (wrap64 (((longL n).length : Int) + ((longL m).length : Int)) + 1) = (((longL n).length + (longL m).length + 1 : Nat) : Int) := by
    rw [w64_in (i := ((longL n).length : Int) + ((longL m).length : Int)) (by omega) (by omega), w64_in (by omega) (by omega)]; omega
  rw [e, if_pos (by omega), Int.toNat_natCast, if_pos (by omega)]
  rfl
theorem power_l0 (base : Nat) (hb : base ≤ 9223372036854775807) (n : Nat) (hn : n < 1000) :
    ∀ (m i : Nat) (p : Nat), i + m = n → (∀ j, j ≤ m → (longL (p * base ^ j)).length < 100000) → Ev (fun k => bursarref03_power.l0 k (base : Int) (n : Int) (i : Int) (longL p)) (longL (p * base ^ m)) := by
  intro m
  induction m with
  | zero =>
    intro i p hi hl
    rw [Nat.pow_zero, Nat.mul_one]
    refine Ev.step (f := fun _ => some (longL p)) (fun k => ?_) (Ev.now _)
    simp only [bursarref03_power.l0]
    rw [if_neg (by omega)]
  | succ m ih =>
    intro i p hi hl
    have h0 := hl 0 (by omega)
    rw [Nat.pow_zero, Nat.mul_one] at h0
    have key := ih (i + 1) (p * base) (by omega) (fun j hj => by have := hl (j + 1) (by omega); rwa [Nat.pow_succ, Nat.mul_comm (base ^ j), ← Nat.mul_assoc] at this)
    rw [Nat.mul_assoc, Nat.mul_comm base, ← Nat.pow_succ] at key
    have hbl := longL_le 19 base (by omega)
    refine Ev.step (f := fun k => (bursarref03_long.f k (base : Int)).bind fun t => (bursarref03_Long_times.f k (longL p) t).bind fun u => bursarref03_power.l0 k (base : Int) (n : Int) ((i + 1 : Nat) : Int) u) (fun k => ?_) (Ev.bind (long_ev base hb) (Ev.bind (times_ev p base h0 (by omega)) key))
    simp only [bursarref03_power.l0]
    rw [if_pos (by omega), w64_in (by omega) (by omega)]
    rfl
theorem power_ev (base : Nat) (hb : base ≤ 9223372036854775807) (n : Nat) (hn : n < 1000) : Ev (fun k => bursarref03_power.f k (base : Int) (n : Int)) (longL (base ^ n)) := by
  have hl : ∀ j, j ≤ n → (longL (1 * base ^ j)).length < 100000 := fun j hj => by
    rw [Nat.one_mul]
    have h1 : base ^ j < 10 ^ (19 * j + 1) := by
      have h2 : base ^ j ≤ (10 ^ 19) ^ j := Nat.pow_le_pow_left (by omega) j
      rw [← Nat.pow_mul] at h2
      rw [Nat.pow_succ]
      have := Nat.pow_pos (n := 19 * j) (show 0 < 10 by decide)
      omega
    have := longL_le (19 * j + 1) _ h1
    omega
  have := power_l0 base hb n hn n 0 1 (by omega) hl
  rw [Nat.one_mul] at this
  exact Ev.congr (fun k => rfl) (Ev.bind (long_ev 1 (by decide)) this)
end Go.Proofs.YtejgbdclhlolkaaGreatDoor.Q
namespace Go.Proofs.YtejgbdclhlolkaaGreatDoor.Q
open Go.RowKit Go.Proofs.YtejgbdclhlolkaaGreatDoorW.PrintWords Go.Proofs.YtejgbdclhlolkaaGreatDoorW.PrintLast Go.Proofs.LongLaw
set_option linter.unusedVariables false
set_option linter.unusedSimpArgs false
theorem front_length (n d : Nat) (hd : d < 10) : (longL (d + 10 * n)).length ≤ (longL n).length + 1 := by
  by_cases h : d + 10 * n = 0
  · rw [h, longL_zero]; exact Nat.zero_le _
  · rw [longL_pos _ h, List.length_cons, show (d + 10 * n) / 10 = n by omega]
    exact Nat.le_refl _
theorem front_ev (d : Int) (n : Nat) (h0 : 0 ≤ d) (h9 : d ≤ 9) (hl : (longL n).length < 100000) : Ev (fun k => bursarref03_cut.f k ([d] ++ longL n)) (longL (d.toNat + 10 * n)) := by
  have hD : Digits ([d] ++ longL n) := by
    intro x hx
    rcases List.mem_append.1 hx with hx | hx
    · simp at hx; omega
    · exact longL_digits n x hx
  have := cut_ev ([d] ++ longL n) hD (by simp; omega)
  have e : (dval ([d] ++ longL n)).toNat = d.toNat + 10 * n := by
    simp only [List.singleton_append, dval, dval_longL]
    omega
  rw [e] at this
  exact this
theorem by_l1 (a : List Int) (B : Nat) (hB : 0 < B) (hBs : (longL B).length < 100000) (i : Nat) (hi6 : i < 100000) (res : List Int × List Int) (r0 : Nat) (q0 : List Int) (hi : i < q0.length) (hr0 : r0 < 10 * B) (hr0s : (longL r0).length < 1000000)
    (hK : Ev (fun k => bursarref03_Long_by.l0 k (q0.set i ((r0 / B : Nat) : Int)) ((i : Int) - 1) a (longL B) (longL (r0 % B))) res) :
    ∀ (m : Nat) (r c : Nat), r0 = c * B + r → r / B = m → Ev (fun k => bursarref03_Long_by.l1 k (q0.set i (c : Int)) (i : Int) a (longL B) (longL r)) res := by
  intro m
  induction m with
  | zero =>
    intro r c hr hm
    have hlt : r < B := by
      rcases Nat.lt_or_ge r B with h | h
      · exact h
      · have := Nat.div_pos h hB; omega
    have hc : r0 / B = c := by rw [hr, Nat.add_comm, Nat.add_mul_div_right _ _ hB, hm, Nat.zero_add]
    have hrm : r0 % B = r := by rw [hr, Nat.add_comm, Nat.add_mul_mod_self_right, Nat.mod_eq_of_lt hlt]
    rw [hc, hrm] at hK
    have hrs : (longL r).length < 1000000 := Nat.lt_of_le_of_lt (longL_mono (n := r) (m := r0) (by omega)) hr0s
    refine Ev.step (f := fun k => (bursarref03_Long_less.f k (longL r) (longL B)).bind fun t => if t = true then bursarref03_Long_by.l0 k (q0.set i (c : Int)) (wrap64 ((i : Int) - 1)) a (longL B) (longL r) else ((bursarref03_Long_minus.f k (longL r) (longL B)).bind fun t378 => (if 0 ≤ (i : Int) then (if (i : Int) < ((q0.set i (c : Int)).length : Int) then (bursarref03_Long_by.l1 k ((q0.set i (c : Int)).set ((i : Int) : Int).toNat (wrap64 ((rd (q0.set i (c : Int)) (i : Int)) + 1))) (i : Int) a (longL B) t378) else (none)) else (none)))) (fun k => by simp only [bursarref03_Long_by.l1]) (Ev.bind (less_ev r B hrs (by omega)) ?_)
    refine Ev.congr (fun k => if_pos (decide_eq_true hlt)) ?_
    have e : wrap64 ((i : Int) - 1) = (i : Int) - 1 := w64_in (by omega) (by omega)
    rw [e]
    exact hK
  | succ m ih =>
    intro r c hr hm
    have hge : B ≤ r := by
      rcases Nat.lt_or_ge r B with h | h
      · rw [Nat.div_eq_of_lt h] at hm; omega
      · exact h
    have hc9 : c < 10 := by
      rcases Nat.lt_or_ge c 10 with h | h
      · exact h
      · have := Nat.mul_le_mul_right B h; omega
    have hrs : (longL r).length < 1000000 := Nat.lt_of_le_of_lt (longL_mono (n := r) (m := r0) (by omega)) hr0s
    have key := ih (r - B) (c + 1) (by rw [Nat.succ_mul]; omega) (by rw [Nat.sub_eq_of_eq_add (show r = (r - B) + B by omega)]; have h1 : r / B = (r - B) / B + 1 := by rw [← Nat.add_div_right _ hB]; congr 1; omega
                                                                     omega)
    refine Ev.step (f := fun k => (bursarref03_Long_less.f k (longL r) (longL B)).bind fun t => if t = true then bursarref03_Long_by.l0 k (q0.set i (c : Int)) (wrap64 ((i : Int) - 1)) a (longL B) (longL r) else ((bursarref03_Long_minus.f k (longL r) (longL B)).bind fun t378 => (if 0 ≤ (i : Int) then (if (i : Int) < ((q0.set i (c : Int)).length : Int) then (bursarref03_Long_by.l1 k ((q0.set i (c : Int)).set ((i : Int) : Int).toNat (wrap64 ((rd (q0.set i (c : Int)) (i : Int)) + 1))) (i : Int) a (longL B) t378) else (none)) else (none)))) (fun k => by simp only [bursarref03_Long_by.l1]) (Ev.bind (less_ev r B hrs (by omega)) ?_)
    refine Ev.congr (fun k => if_neg (by rw [decide_eq_false (by omega)]; exact Bool.false_ne_true)) (Ev.bind (minus_ev r B hge hrs) ?_)
    refine Ev.congr (fun k => if_pos (by omega)) (Ev.congr (fun k => if_pos (by rw [List.length_set]; omega)) ?_)
    have e : (q0.set i (c : Int)).set ((i : Int) : Int).toNat (wrap64 ((rd (q0.set i (c : Int)) (i : Int)) + 1)) = q0.set i ((c + 1 : Nat) : Int) := by
      rw [rd_nat, set_get q0 i _ hi, if_pos rfl, w64_in (by omega) (by omega), Int.toNat_natCast, List.set_set]
      rfl
    rw [e]
    exact key
theorem by_step (aj B A Q r r0 q rest : Int) (h1 : A = Q * B + r) (h2 : r0 = aj + 10 * r) (h3 : r0 = q * B + rest) : aj + 10 * A = (q + 10 * Q) * B + rest := by
  grind
theorem drop_set_succ (l : List Int) (j : Nat) (x : Int) : (l.set j x).drop (j + 1) = l.drop (j + 1) := by
  apply List.ext_getElem?
  intro t
  rw [List.getElem?_drop, List.getElem?_drop, List.getElem?_set, if_neg (by omega)]
theorem by_l0 (a : List Int) (ha : Digits a) (hla : a.length < 100000) (B : Nat) (hB : 0 < B) (hBs : (longL B).length < 90000) :
    ∀ (j : Nat) (q : List Int) (r : Nat), j ≤ a.length → q.length = a.length → Digits q → r < B → dval (a.drop j) = dval (q.drop j) * B + r → (∀ p, p < j → q.getD p 0 = 0) →
      Ev (fun k => bursarref03_Long_by.l0 k q ((j : Int) - 1) a (longL B) (longL r)) (longL ((dval a).toNat / B), longL ((dval a).toNat % B)) := by
  intro j
  induction j with
  | zero =>
    intro q r hj hql hD hr hv hz
    rw [List.drop_zero, List.drop_zero] at hv
    have hq0 := dval_nonneg hD
    obtain ⟨Q, hQ⟩ : ∃ Q : Nat, dval q = Q := ⟨(dval q).toNat, by omega⟩
    have hA : (dval a).toNat = Q * B + r := by rw [hv, hQ, ← Int.natCast_mul]; omega
    rw [hA, Nat.add_comm, Nat.add_mul_div_right _ _ hB, Nat.add_mul_mod_self_right, Nat.mod_eq_of_lt hr, Nat.div_eq_of_lt hr, Nat.zero_add]
    have hcut := cut_ev q hD (by omega)
    rw [hQ, Int.toNat_natCast] at hcut
    refine Ev.step (f := fun k => (bursarref03_cut.f k q).bind fun t => some (t, longL r)) (fun k => ?_) (Ev.bind hcut (Ev.now _))
    simp only [bursarref03_Long_by.l0]
    rw [if_neg (by omega)]
  | succ j ih =>
    intro q r hj hql hD hr hv hz
    have ga := digits_get ha j
    have HV := Lib.hid hv
    clear hv
    have hrs : (longL r).length < 90000 := Nat.lt_of_le_of_lt (longL_mono (by omega)) hBs
    obtain ⟨d, hd⟩ : ∃ d : Nat, a.getD j 0 = d := ⟨(a.getD j 0).toNat, by omega⟩
    obtain ⟨r0, hr0⟩ : ∃ r0, r0 = d + 10 * r := ⟨_, rfl⟩
    have hr0b : r0 < 10 * B := by omega
    have hr0s : (longL r0).length < 1000000 := by have := front_length r d (by omega); rw [← hr0] at this; omega
    have hq9 : r0 / B < 10 := by rw [Nat.div_lt_iff_lt_mul hB]; exact hr0b
    have key := ih (q.set j ((r0 / B : Nat) : Int)) (r0 % B) (by omega) (by rw [List.length_set]; exact hql) (digits_set hD j (Int.natCast_nonneg _) (Int.ofNat_le.2 (Nat.le_of_lt_succ hq9))) (Nat.mod_lt _ hB) (by
        rw [dval_drop_getD a j, dval_drop_getD (q.set j _) j, drop_set_succ, set_get q j _ (by omega), if_pos rfl]
        exact by_step _ _ _ _ _ (r0 : Int) _ _ HV.out (by rw [hr0, hd]; omega) (by have := Nat.div_add_mod r0 B; rw [Nat.mul_comm] at this; rw [← Int.natCast_mul]; omega))
      (fun p hp => by rw [set_get q j _ (by omega), if_neg (by omega)]; exact hz p (by omega))
    have l1 := by_l1 a B hB (by omega) j (by omega) _ r0 q (by omega) hr0b hr0s key (r0 / B) r0 0 (by omega) rfl
    have hq : q.set j ((0 : Nat) : Int) = q := by
      apply List.ext_getElem?
      intro t
      rw [List.getElem?_set]
      by_cases e : j = t
      · subst e
        rw [if_pos rfl, if_pos (by omega)]
        have := hz j (by omega)
        rw [List.getD_eq_getElem?_getD, List.getElem?_eq_getElem (by omega)] at this
        rw [List.getElem?_eq_getElem (by omega)]
        simpa using this.symm
      · rw [if_neg e]
    rw [hq] at l1
    have fr := front_ev (a.getD j 0) r ga.1 ga.2 (by omega)
    rw [hd, Int.toNat_natCast, ← hr0, ← hd] at fr
    refine Ev.step (f := fun k => (bursarref03_cut.f k ([a.getD j 0] ++ longL r)).bind fun t => bursarref03_Long_by.l1 k q (j : Int) a (longL B) t) (fun k => ?_) (Ev.bind fr l1)
    simp only [bursarref03_Long_by.l0]
    rw [show (((j + 1 : Nat) : Int) - 1) = (j : Int) by omega, if_pos (by omega), if_pos (by omega), if_pos (by omega), if_pos (by decide), rd_nat, Option.bind_some, if_pos (by simp; omega)]
    rfl
theorem by_ev (n m : Nat) (hm : 0 < m) (hn : (longL n).length < 90000) (hms : (longL m).length < 90000) : Ev (fun k => bursarref03_Long_by.f k (longL n) (longL m)) (longL (n / m), longL (n % m)) := by
  have := by_l0 (longL n) (longL_digits n) (by omega) m hm hms (longL n).length (List.replicate (longL n).length 0) 0 (Nat.le_refl _) (by simp) (digits_zero _) hm (by rw [List.drop_eq_nil_of_le (Nat.le_refl _), List.drop_eq_nil_of_le (by simp)]; simp [dval]) (fun p _ => getD_zero _ _)
  rw [dval_longL, Int.toNat_natCast] at this
  refine Ev.congr (fun k => ?_) this
  unfold bursarref03_Long_by.f
  rw [if_pos (by omega), Int.toNat_natCast, if_pos (by omega), w64_in (by omega) (by omega), longL_zero]
end Go.Proofs.YtejgbdclhlolkaaGreatDoor.Q
namespace Go.Proofs.YtejgbdclhlolkaaGreatDoor.Q
open Go.RowKit Go.Proofs.YtejgbdclhlolkaaGreatDoorW.PrintWords Go.Proofs.YtejgbdclhlolkaaGreatDoorW.PrintLast Go.Proofs.YtejgbdclhlolkaaGreatDoorW.PrintMore
attribute [local go_sem] max2_int min2_int max_two min_two max_three min_three max_four min_four   -- for this text's walks alone
set_option linter.unusedVariables false
set_option linter.unusedSimpArgs false
def quant_Scale.j0 : Nat → Int → Int → Int → Bool → Option (Int × Int)
|0,_,_,_,_ => none
|k + 1,x0,x1,x2,x19 => if x19 = true then (some (0,1)) else ((bits_Mul64.f (IntKind.u64.wrap (x0)) (IntKind.u64.wrap (x1))).bind fun bt398 => ((quant_over.f k bt398.1 bt398.2 (IntKind.u64.wrap (x2))).bind fun bt400 => (some (bt400.1,bt400.2))))
def quant_Scale.f (k : Nat) (a0 : Int) (a1 : Int) (a2 : Int) : Option (Int × Int) := if a0 < 0 then (quant_Scale.j0 k a0 a1 a2 true) else (if a1 < 0 then (quant_Scale.j0 k a0 a1 a2 true) else (quant_Scale.j0 k a0 a1 a2 (decide (a2 < 1))))
theorem quant_Scale.mono_l : ∀ k, (∀ y0 y1 y2 y3, LeO (quant_Scale.j0 k y0 y1 y2 y3) (quant_Scale.j0 (k + 1) y0 y1 y2 y3))
|0 => fun _ _ _ _ r h => by simp [quant_Scale.j0] at h
|k + 1 => by
  have ih0:=quant_Scale.mono_l k
  ·intro y0 y1 y2 y3
   unfold quant_Scale.j0
   repeat' first
  |(with_reducible exact ih0 _ _ _ _)
  |(with_reducible exact quant_over.mono _ _ _ _)
  |(with_reducible exact LeO.refl _)
  |(with_reducible exact LeO.none _)
  |(with_reducible refine LeO.ite ?_ ?_)
  |(with_reducible refine LeO.bind ?_ (fun _ => ?_))
  |exact ih0 _ _ _ _
  |exact quant_over.mono _ _ _ _
  |exact LeO.none _
  |refine LeO.ite ?_ ?_
  |refine LeO.bind ?_ (fun _ => ?_)
theorem quant_Scale.mono : ∀ a0 a1 a2 k, LeO (quant_Scale.f k a0 a1 a2) (quant_Scale.f (k + 1) a0 a1 a2) := by
 intro a0 a1 a2 k
 have ih0:=quant_Scale.mono_l k
 unfold quant_Scale.f
 repeat' first
  |(with_reducible exact ih0 _ _ _ _)
  |(with_reducible exact quant_over.mono _ _ _ _)
  |(with_reducible exact LeO.refl _)
  |(with_reducible exact LeO.none _)
  |(with_reducible refine LeO.ite ?_ ?_)
  |(with_reducible refine LeO.bind ?_ (fun _ => ?_))
  |exact ih0 _ _ _ _
  |exact quant_over.mono _ _ _ _
  |exact LeO.none _
  |refine LeO.ite ?_ ?_
  |refine LeO.bind ?_ (fun _ => ?_)
end Go.Proofs.YtejgbdclhlolkaaGreatDoor.Q
namespace Go.Proofs.DivLaw
set_option linter.unusedVariables false
set_option linter.unusedSimpArgs false
theorem digit_is (v1 v0 u n q r : Nat) (hq : q * v1 + r = u) (h : q * v0 ≤ 4294967296 * r + n) (hge : (u * 4294967296 + n) / (v1 * 4294967296 + v0) ≤ q) (hv : 0 < v1) :
    q = (u * 4294967296 + n) / (v1 * 4294967296 + v0) := by
  refine Nat.le_antisymm ?_ hge
  rw [Nat.le_div_iff_mul_le (by omega)]
  have e : q * (v1 * 4294967296 + v0) = (q * v1) * 4294967296 + q * v0 := by rw [Nat.mul_add, Nat.mul_assoc]
  rw [e]
  generalize q * v1 = p at *
  generalize q * v0 = s at *
  omega
theorem digit_less (v1 v0 u n q r : Nat) (hq : q * v1 + r = u) (h : 4294967296 * r + n < q * v0) (hv : 0 < v1) :
    (u * 4294967296 + n) / (v1 * 4294967296 + v0) < q := by
  rw [Nat.div_lt_iff_lt_mul (by omega)]
  have e : q * (v1 * 4294967296 + v0) = (q * v1) * 4294967296 + q * v0 := by rw [Nat.mul_add, Nat.mul_assoc]
  rw [e]
  generalize q * v1 = p at *
  generalize q * v0 = s at *
  omega
theorem digit_big (v1 v0 u n : Nat) (hu : u < v1 * 4294967296 + v0) (hn : n < 4294967296) (hv : 0 < v1) :
    (u * 4294967296 + n) / (v1 * 4294967296 + v0) < 4294967296 := by
  rw [Nat.div_lt_iff_lt_mul (by omega)]
  omega
theorem guess_le (v1 v0 u : Nat) (hu : u < v1 * 4294967296 + v0) (h0 : v0 < 4294967296) (hv : 2147483648 ≤ v1) : u / v1 ≤ 4294967297 := by
  have : u / v1 < 4294967298 := by
    rw [Nat.div_lt_iff_lt_mul (by omega)]
    omega
  omega
theorem guess_ge (v1 v0 u n : Nat) (hn : n < 4294967296) (hv : 0 < v1) : (u * 4294967296 + n) / (v1 * 4294967296 + v0) ≤ u / v1 := by
  rw [Nat.le_div_iff_mul_le hv]
  have h := Nat.div_mul_le_self (u * 4294967296 + n) (v1 * 4294967296 + v0)
  generalize (u * 4294967296 + n) / (v1 * 4294967296 + v0) = q at *
  have e : q * (v1 * 4294967296 + v0) = (q * v1) * 4294967296 + q * v0 := by rw [Nat.mul_add, Nat.mul_assoc]
  rw [e] at h
  generalize q * v1 = p at *
  generalize q * v0 = s at *
  omega
theorem two_digits (V u n m q1 q0 : Nat) (hV : 0 < V) (h1 : q1 = (u * 4294967296 + n) / V) (h0 : q0 = ((u * 4294967296 + n - q1 * V) * 4294967296 + m) / V) (hm : m < 4294967296) :
    q1 * 4294967296 + q0 = (u * 18446744073709551616 + n * 4294967296 + m) / V ∧
    (u * 4294967296 + n - q1 * V) * 4294967296 + m - q0 * V = (u * 18446744073709551616 + n * 4294967296 + m) % V := by
  have hd1 : q1 * V ≤ u * 4294967296 + n := by rw [h1]; exact Nat.div_mul_le_self _ _
  have hd0 : q0 * V ≤ (u * 4294967296 + n - q1 * V) * 4294967296 + m := by rw [h0]; exact Nat.div_mul_le_self _ _
  have hl0 : (u * 4294967296 + n - q1 * V) * 4294967296 + m < q0 * V + V := by
    have := Nat.lt_div_mul_add hV (a := (u * 4294967296 + n - q1 * V) * 4294967296 + m)
    rw [← h0] at this
    exact this
  have e : (q1 * 4294967296 + q0) * V = (q1 * V) * 4294967296 + q0 * V := by rw [Nat.add_mul, Nat.mul_right_comm]
  have hN : u * 18446744073709551616 + n * 4294967296 + m = (q1 * 4294967296 + q0) * V + ((u * 4294967296 + n - q1 * V) * 4294967296 + m - q0 * V) := by
    rw [e]
    generalize q1 * V = p at *
    generalize q0 * V = s at *
    omega
  have hr : (u * 4294967296 + n - q1 * V) * 4294967296 + m - q0 * V < V := by
    generalize q1 * V = p at *
    generalize q0 * V = s at *
    omega
  constructor
  · rw [hN, Nat.mul_comm (q1 * 4294967296 + q0) V, Nat.mul_add_div hV, Nat.div_eq_of_lt hr, Nat.add_zero]
  · rw [hN, Nat.mul_comm (q1 * 4294967296 + q0) V, Nat.mul_add_mod, Nat.mod_eq_of_lt hr]
end Go.Proofs.DivLaw
namespace Go.Proofs.YtejgbdclhlolkaaGreatDoor.Q
open Go.RowKit Go.Proofs.YtejgbdclhlolkaaGreatDoorW.PrintWords Go.Proofs.YtejgbdclhlolkaaGreatDoorW.PrintLast Go.Proofs.YtejgbdclhlolkaaGreatDoorW.PrintMore Go.Proofs.DivLaw
set_option linter.unusedVariables false
set_option linter.unusedSimpArgs false
theorem u64w (x : Int) : IntKind.u64.wrap x = x % 18446744073709551616 := by simp [IntKind.wrap, IntKind.bits, IntKind.signed]
theorem u64i {x : Int} (h0 : 0 ≤ x) (h1 : x < 18446744073709551616) : IntKind.u64.wrap x = x := by rw [u64w]; omega
theorem u64n {n : Nat} (h1 : n < 18446744073709551616) : IntKind.u64.wrap (n : Int) = n := u64i (by omega) (by omega)
theorem w64i {i : Int} (h0 : -9223372036854775808 ≤ i) (h1 : i ≤ 9223372036854775807) : wrap64 i = i := by unfold wrap64; omega
theorem mul_bound {a b : Nat} (ha : a ≤ 4294967296) (hb : b < 4294967296) : a * b < 18446744073709551616 := by
  have : a * b ≤ 4294967296 * b := Nat.mul_le_mul_right _ ha
  omega
theorem rest_is (u n p y : Nat) (h : p ≤ u * 4294967296 + n) (hy : u * 4294967296 + n - p < 18446744073709551616) :
    IntKind.u64.wrap (IntKind.u64.wrap (IntKind.u64.wrap ((u : Int) * 4294967296) + (n : Int)) - IntKind.u64.wrap (p : Int)) = ((u * 4294967296 + n - p : Nat) : Int) := by
  rw [u64w, u64w, u64w, u64w]; omega
theorem div_l1 (V1 V0 R m s y q1 : Nat) (hy : y = V1 * 4294967296 + V0) (hV1 : 2147483648 ≤ V1) (hV1' : V1 < 4294967296) (hV0 : V0 < 4294967296) (hm : m < 4294967296) (hR : R < y) (hq1 : q1 < 4294967296) :
    ∀ q r : Nat, q * V1 + r = R → r < 4294967296 → (R * 4294967296 + m) / y ≤ q → q ≤ 4294967297 →
      Ev (fun k => bits_Div64.l1 k (y : Int) (s : Int) (V1 : Int) (V0 : Int) (m : Int) (q1 : Int) (r : Int) (R : Int) (q : Int))
        (((q1 * 4294967296 + (R * 4294967296 + m) / y : Nat) : Int), shr .u64 ((R * 4294967296 + m - (R * 4294967296 + m) / y * y : Nat) : Int) (s : Int)) := by
  intro q
  have hfin : ∀ g : Nat, g = (R * 4294967296 + m) / y → (if (0 : Int) ≤ (s : Int) then some (IntKind.u64.wrap ((IntKind.u64.wrap ((q1 : Int) * 4294967296)) + (g : Int)), shr .u64 (IntKind.u64.wrap ((IntKind.u64.wrap ((IntKind.u64.wrap ((R : Int) * 4294967296)) + (m : Int))) - (IntKind.u64.wrap ((g : Int) * (y : Int))))) (s : Int)) else none)
      = some (((q1 * 4294967296 + (R * 4294967296 + m) / y : Nat) : Int), shr .u64 ((R * 4294967296 + m - (R * 4294967296 + m) / y * y : Nat) : Int) (s : Int)) := by
    intro g hg
    have hle := Nat.div_mul_le_self (R * 4294967296 + m) y
    have hlt := Nat.lt_div_mul_add (a := R * 4294967296 + m) (b := y) (by omega)
    have hbig := digit_big V1 V0 R m (by omega) hm (by omega)
    rw [← hy] at hbig
    rw [← hg] at hle hlt hbig ⊢
    rw [if_pos (by omega), ← Int.natCast_mul, rest_is R m (g * y) y (by omega) (by omega), u64w, u64w]
    congr 2
    omega
  induction q with
  | zero =>
    intro r hq hr hge hle
    have hQ : 0 = (R * 4294967296 + m) / y := (Nat.le_zero.1 hge).symm
    refine Ev.step (f := fun k => bits_Div64.j4 k (y : Int) (s : Int) (V1 : Int) (V0 : Int) (m : Int) (q1 : Int) (r : Int) (R : Int) ((0 : Nat) : Int) false) (fun k => ?_) (Ev.step (f := fun _ => some _) (fun k => ?_) (Ev.now _))
    · simp only [bits_Div64.l1]
      rw [if_neg (by omega), u64w, u64w, u64w, decide_eq_false (by omega)]
    · simp only [bits_Div64.j4]
      rw [if_neg Bool.false_ne_true]
      exact hfin 0 hQ
  | succ q ih =>
    intro r hq hr hge hle
    by_cases ht : 4294967296 ≤ q + 1 ∨ 4294967296 * r + m < (q + 1) * V0
    · have hge' : (R * 4294967296 + m) / y ≤ q := by
        have : (R * 4294967296 + m) / y < q + 1 := by
          rcases ht with h | h
          · have := digit_big V1 V0 R m (by omega) hm (by omega)
            rw [← hy] at this; omega
          · have := digit_less V1 V0 R m (q + 1) r hq h (by omega)
            rw [← hy] at this; exact this
        omega
      rw [Nat.succ_mul] at hq
      refine Ev.step (f := fun k => bits_Div64.j4 k (y : Int) (s : Int) (V1 : Int) (V0 : Int) (m : Int) (q1 : Int) (r : Int) (R : Int) ((q + 1 : Nat) : Int) true) (fun k => ?_) ?_
      · simp only [bits_Div64.l1]
        by_cases h : 4294967296 ≤ q + 1
        · rw [if_pos (by omega)]
        · rw [if_neg (by omega)]
          have hb := mul_bound (a := q + 1) (b := V0) (by omega) hV0
          have h2 : 4294967296 * r + m < (q + 1) * V0 := by omega
          rw [← Int.natCast_mul, u64n hb, u64w, u64w, decide_eq_true (by omega)]
      · by_cases hbr : 4294967296 ≤ r + V1
        · have hQ : q = (R * 4294967296 + m) / y := by
            rw [hy] at hge' ⊢
            refine digit_is V1 V0 R m q (r + V1) (by omega) ?_ hge' (by omega)
            have := mul_bound (a := q) (b := V0) (by omega) hV0
            omega
          refine Ev.step (f := fun _ => some _) (fun k => ?_) (Ev.now _)
          simp only [bits_Div64.j4]
          rw [if_pos trivial, u64i (x := (r : Int) + (V1 : Int)) (by omega) (by omega), if_pos (by omega), u64i (x := ((q + 1 : Nat) : Int) - 1) (by omega) (by omega), show ((q + 1 : Nat) : Int) - 1 = (q : Int) by omega]
          exact hfin q hQ
        · refine Ev.step (f := fun k => bits_Div64.l1 k (y : Int) (s : Int) (V1 : Int) (V0 : Int) (m : Int) (q1 : Int) ((r + V1 : Nat) : Int) (R : Int) (q : Int)) (fun k => ?_) (ih (r + V1) (by omega) (by omega) hge' (by omega))
          simp only [bits_Div64.j4]
          rw [if_pos trivial, u64i (x := (r : Int) + (V1 : Int)) (by omega) (by omega), if_neg (by omega), u64i (x := ((q + 1 : Nat) : Int) - 1) (by omega) (by omega), show ((q + 1 : Nat) : Int) - 1 = (q : Int) by omega]
          rfl
    · have hQ : q + 1 = (R * 4294967296 + m) / y := by
        rw [hy] at hge ⊢
        exact digit_is V1 V0 R m (q + 1) r hq (by omega) hge (by omega)
      refine Ev.step (f := fun k => bits_Div64.j4 k (y : Int) (s : Int) (V1 : Int) (V0 : Int) (m : Int) (q1 : Int) (r : Int) (R : Int) ((q + 1 : Nat) : Int) false) (fun k => ?_) (Ev.step (f := fun _ => some _) (fun k => ?_) (Ev.now _))
      · simp only [bits_Div64.l1]
        have hb := mul_bound (a := q + 1) (b := V0) (by omega) hV0
        rw [if_neg (by omega), ← Int.natCast_mul, u64n hb, u64w, u64w, decide_eq_false (by omega)]
      · simp only [bits_Div64.j4]
        rw [if_neg Bool.false_ne_true]
        exact hfin (q + 1) hQ
theorem div_l0 {α : Type} (V1 V0 u n m s y : Nat) (hy : y = V1 * 4294967296 + V0) (hV1 : 2147483648 ≤ V1) (hV1' : V1 < 4294967296) (hV0 : V0 < 4294967296) (hn : n < 4294967296) (hu : u < y) (res : Int × Int)
    (hK : Ev (fun k => bits_Div64.j2 k (y : Int) (s : Int) (V1 : Int) (V0 : Int) (u : Int) (n : Int) (m : Int) (((u * 4294967296 + n) / y : Nat) : Int)) res) :
    ∀ q r : Nat, q * V1 + r = u → r < 4294967296 → (u * 4294967296 + n) / y ≤ q → q ≤ 4294967297 →
      Ev (fun k => bits_Div64.l0 k (y : Int) (s : Int) (V1 : Int) (V0 : Int) (u : Int) (n : Int) (m : Int) (q : Int) (r : Int)) res := by
  intro q
  induction q with
  | zero =>
    intro r hq hr hge hle
    have hQ : 0 = (u * 4294967296 + n) / y := (Nat.le_zero.1 hge).symm
    rw [← hQ] at hK
    refine Ev.step (f := fun k => bits_Div64.j1 k (y : Int) (s : Int) (V1 : Int) (V0 : Int) (u : Int) (n : Int) (m : Int) ((0 : Nat) : Int) (r : Int) false) (fun k => ?_) (Ev.step (fun k => ?_) hK)
    · simp only [bits_Div64.l0]
      rw [if_neg (by omega), u64w, u64w, u64w, decide_eq_false (by omega)]
    · simp only [bits_Div64.j1]
      rw [if_neg Bool.false_ne_true]
  | succ q ih =>
    intro r hq hr hge hle
    by_cases ht : 4294967296 ≤ q + 1 ∨ 4294967296 * r + n < (q + 1) * V0
    · have hge' : (u * 4294967296 + n) / y ≤ q := by
        have : (u * 4294967296 + n) / y < q + 1 := by
          rcases ht with h | h
          · have := digit_big V1 V0 u n (by omega) hn (by omega)
            rw [← hy] at this; omega
          · have := digit_less V1 V0 u n (q + 1) r hq h (by omega)
            rw [← hy] at this; exact this
        omega
      rw [Nat.succ_mul] at hq
      refine Ev.step (f := fun k => bits_Div64.j1 k (y : Int) (s : Int) (V1 : Int) (V0 : Int) (u : Int) (n : Int) (m : Int) ((q + 1 : Nat) : Int) (r : Int) true) (fun k => ?_) ?_
      · simp only [bits_Div64.l0]
        by_cases h : 4294967296 ≤ q + 1
        · rw [if_pos (by omega)]
        · rw [if_neg (by omega)]
          have hb := mul_bound (a := q + 1) (b := V0) (by omega) hV0
          have h2 : 4294967296 * r + n < (q + 1) * V0 := by omega
          rw [← Int.natCast_mul, u64n hb, u64w, u64w, decide_eq_true (by omega)]
      · by_cases hbr : 4294967296 ≤ r + V1
        · have hQ : q = (u * 4294967296 + n) / y := by
            rw [hy] at hge' ⊢
            refine digit_is V1 V0 u n q (r + V1) (by omega) ?_ hge' (by omega)
            have := mul_bound (a := q) (b := V0) (by omega) hV0
            omega
          rw [← hQ] at hK
          refine Ev.step (fun k => ?_) hK
          simp only [bits_Div64.j1]
          rw [if_pos trivial, u64i (x := (r : Int) + (V1 : Int)) (by omega) (by omega), if_pos (by omega), u64i (x := ((q + 1 : Nat) : Int) - 1) (by omega) (by omega), show ((q + 1 : Nat) : Int) - 1 = (q : Int) by omega]
        · refine Ev.step (f := fun k => bits_Div64.l0 k (y : Int) (s : Int) (V1 : Int) (V0 : Int) (u : Int) (n : Int) (m : Int) (q : Int) ((r + V1 : Nat) : Int)) (fun k => ?_) (ih (r + V1) (by omega) (by omega) hge' (by omega))
          simp only [bits_Div64.j1]
          rw [if_pos trivial, u64i (x := (r : Int) + (V1 : Int)) (by omega) (by omega), if_neg (by omega), u64i (x := ((q + 1 : Nat) : Int) - 1) (by omega) (by omega), show ((q + 1 : Nat) : Int) - 1 = (q : Int) by omega]
          rfl
    · have hQ : q + 1 = (u * 4294967296 + n) / y := by
        rw [hy] at hge ⊢
        exact digit_is V1 V0 u n (q + 1) r hq (by omega) hge (by omega)
      rw [← hQ] at hK
      refine Ev.step (f := fun k => bits_Div64.j1 k (y : Int) (s : Int) (V1 : Int) (V0 : Int) (u : Int) (n : Int) (m : Int) ((q + 1 : Nat) : Int) (r : Int) false) (fun k => ?_) (Ev.step (fun k => ?_) hK)
      · simp only [bits_Div64.l0]
        have hb := mul_bound (a := q + 1) (b := V0) (by omega) hV0
        rw [if_neg (by omega), ← Int.natCast_mul, u64n hb, u64w, u64w, decide_eq_false (by omega)]
      · simp only [bits_Div64.j1]
        rw [if_neg Bool.false_ne_true]
theorem div_j2 (V1 V0 u n m s y : Nat) (hy : y = V1 * 4294967296 + V0) (hV1 : 2147483648 ≤ V1) (hV1' : V1 < 4294967296) (hV0 : V0 < 4294967296) (hn : n < 4294967296) (hm : m < 4294967296) (hu : u < y) :
    Ev (fun k => bits_Div64.j2 k (y : Int) (s : Int) (V1 : Int) (V0 : Int) (u : Int) (n : Int) (m : Int) (((u * 4294967296 + n) / y : Nat) : Int))
      ((((u * 18446744073709551616 + n * 4294967296 + m) / y : Nat) : Int), shr .u64 (((u * 18446744073709551616 + n * 4294967296 + m) % y : Nat) : Int) (s : Int)) := by
  have hle := Nat.div_mul_le_self (u * 4294967296 + n) y
  have hlt := Nat.lt_div_mul_add (a := u * 4294967296 + n) (b := y) (by omega)
  have hbig := digit_big V1 V0 u n (by omega) hn (by omega)
  rw [← hy] at hbig
  have two := two_digits y u n m ((u * 4294967296 + n) / y) (((u * 4294967296 + n - (u * 4294967296 + n) / y * y) * 4294967296 + m) / y) (by omega) rfl rfl hm
  obtain ⟨q1, hq⟩ : ∃ q1, q1 = (u * 4294967296 + n) / y := ⟨_, rfl⟩
  rw [← hq] at hle hlt hbig two ⊢
  obtain ⟨R, hR⟩ : ∃ R, R = u * 4294967296 + n - q1 * y := ⟨_, rfl⟩
  rw [← hR] at two
  have hRy : R < y := by omega
  have hR1 : R / V1 * V1 + (R - R / V1 * V1) = R := by have := Nat.div_mul_le_self R V1; omega
  have hr : R - R / V1 * V1 < V1 := by have := Nat.lt_div_mul_add (a := R) (b := V1) (by omega); omega
  have hg := guess_ge V1 V0 R m hm (by omega)
  rw [← hy] at hg
  have hgl := guess_le V1 V0 R (by omega) hV0 hV1
  have key := div_l1 V1 V0 R m s y q1 hy hV1 hV1' hV0 hm hRy hbig (R / V1) (R - R / V1 * V1) hR1 (by omega) hg hgl
  rw [two.1, two.2] at key
  refine Ev.step (fun k => ?_) key
  simp only [bits_Div64.j2]
  have e1 : IntKind.u64.wrap (IntKind.u64.wrap (IntKind.u64.wrap ((u : Int) * 4294967296) + (n : Int)) - IntKind.u64.wrap ((q1 : Int) * (y : Int))) = (R : Int) := by
    rw [← Int.natCast_mul, rest_is u n (q1 * y) y hle (by omega), hR]
  rw [if_neg (by omega), e1, Int.tdiv_eq_ediv_of_nonneg (by omega), ← Int.natCast_ediv, u64n (n := R / V1) (by omega), ← Int.natCast_mul]
  have hle2 := Nat.div_mul_le_self R V1
  rw [u64n (n := R / V1 * V1) (by omega), u64i (by omega) (by omega), ← Int.natCast_sub hle2]
theorem and_mask (x : Nat) (h : x < 18446744073709551616) : Go.bits .and .u64 (x : Int) 4294967295 = ((x % 4294967296 : Nat) : Int) := by
  have h1 := (bits_nat .u64 64 (by decide) (fun n h0 h1 => by rw [u64w]; omega) x 4294967295 (by omega) (by decide)).1
  have e : x &&& 4294967295 = x % 4294967296 := Nat.and_two_pow_sub_one_eq_mod x 32
  rw [e] at h1
  exact h1
theorem or_join (a b s : Nat) (hb : b < 2 ^ s) (h : a * 2 ^ s + b < 18446744073709551616) : Go.bits .or .u64 ((a * 2 ^ s : Nat) : Int) (b : Int) = ((a * 2 ^ s + b : Nat) : Int) := by
  have h1 := (bits_nat .u64 64 (by decide) (fun n h0 h1 => by rw [u64w]; omega) (a * 2 ^ s) b (by omega) (by omega)).2
  have e : a * 2 ^ s ||| b = a * 2 ^ s + b := by rw [Nat.mul_comm, Nat.two_pow_add_eq_or_of_lt hb]
  rw [e] at h1
  exact h1
theorem shl_nat (x s : Nat) (hs : s ≤ 64) : shl .u64 (x : Int) (s : Int) = ((x * 2 ^ s % 18446744073709551616 : Nat) : Int) := by
  unfold shl
  have e : min (s : Int).toNat IntKind.u64.bits = s := by show min (s : Int).toNat 64 = s; omega
  rw [e, u64w]
  have e2 : (x : Int) * 2 ^ s = ((x * 2 ^ s : Nat) : Int) := by simp
  rw [e2]
  omega
theorem shr_nat (x s : Nat) (hs : s ≤ 64) : shr .u64 (x : Int) (s : Int) = ((x / 2 ^ s : Nat) : Int) := by
  unfold shr
  have e : min (s : Int).toNat IntKind.u64.bits = s := by show min (s : Int).toNat 64 = s; omega
  rw [e]
  have e2 : ((2 : Int) ^ s) = ((2 ^ s : Nat) : Int) := by simp
  rw [e2, ← Int.natCast_ediv]
theorem shift_sum (P T hi lo : Nat) (hPT : P * T = 18446744073709551616) (hT : 0 < T) :
    (hi * P + lo / T) * 18446744073709551616 + lo * P % 18446744073709551616 = P * (hi * 18446744073709551616 + lo) := by
  have e1 : lo * P % 18446744073709551616 = lo % T * P := by rw [← hPT, Nat.mul_comm P T, Nat.mul_mod_mul_right]
  have e2 := Nat.div_add_mod lo T
  rw [e1, ← hPT]
  generalize lo / T = a at *
  generalize lo % T = b at *
  rw [← e2]
  simp only [Nat.mul_add, Nat.add_mul]
  have : hi * P * (P * T) = P * (hi * (P * T)) := by rw [Nat.mul_comm hi P, Nat.mul_assoc]
  have : a * (P * T) = P * (T * a) := by rw [Nat.mul_comm a (P * T), Nat.mul_assoc]
  have : b * P = P * b := Nat.mul_comm b P
  omega
theorem pow_split (s : Nat) (hs : s ≤ 64) : 2 ^ s * 2 ^ (64 - s) = 18446744073709551616 := by
  rw [← Nat.pow_add, show s + (64 - s) = 64 by omega]
theorem div_ev (hi lo d : Nat) (hd : 0 < d) (hd64 : d < 18446744073709551616) (hhi : hi < d) (hlo : lo < 18446744073709551616) :
    Ev (fun k => bits_Div64.f k (hi : Int) (lo : Int) (d : Int)) ((((hi * 18446744073709551616 + lo) / d : Nat) : Int), (((hi * 18446744073709551616 + lo) % d : Nat) : Int)) := by
  by_cases h0 : hi = 0
  · subst h0
    refine Ev.congr (f := fun _ => some _) (fun k => ?_) (Ev.now _)
    unfold bits_Div64.f
    rw [if_neg (by omega), if_neg (by omega), if_pos (by omega), Int.tdiv_eq_ediv_of_nonneg (by omega), Int.tmod_eq_emod_of_nonneg (by omega), ← Int.natCast_ediv, ← Int.natCast_emod, u64n (Nat.lt_of_le_of_lt (Nat.div_le_self _ _) hlo)]
    simp
  · obtain ⟨hL1, hL2, hL3⟩ := Lib.bitLenAux_bounds 64 d (by omega) (by omega)
    have hL64 : Lib.bitLenAux 64 d ≤ 64 := by
      rcases Nat.lt_or_ge 64 (Lib.bitLenAux 64 d) with h | h
      · have := Nat.pow_le_pow_right (n := 2) (by decide) (show 64 ≤ Lib.bitLenAux 64 d - 1 by omega)
        omega
      · exact h
    have hLZ : bits_LeadingZeros64.f (d : Int) = some ((64 - Lib.bitLenAux 64 d : Nat) : Int) := by
      unfold bits_LeadingZeros64.f
      rw [if_pos ⟨by omega, by omega⟩]
      congr 1
      show (64 : Int) - (Lib.bitLenAux 64 (d : Int).toNat : Int) = _
      rw [Int.toNat_natCast]
      omega
    generalize Lib.bitLenAux 64 d = L at *
    obtain ⟨s, hs⟩ : ∃ s, s = 64 - L := ⟨_, rfl⟩
    rw [← hs] at hLZ
    have hs64 : s ≤ 63 := by omega
    have hPT := pow_split s (by omega)
    have hLs : 2 ^ (L - 1) * 2 ^ s = 9223372036854775808 := by rw [← Nat.pow_add, show L - 1 + s = 63 by omega]
    have hLs2 : 2 ^ L * 2 ^ s = 18446744073709551616 := by rw [← Nat.pow_add, show L + s = 64 by omega]
    have hy1 : 9223372036854775808 ≤ d * 2 ^ s := by rw [← hLs]; exact Nat.mul_le_mul_right _ hL2
    have hP : 0 < 2 ^ s := Nat.two_pow_pos s
    have hT : 0 < 2 ^ (64 - s) := Nat.two_pow_pos _
    have hy2 : d * 2 ^ s < 18446744073709551616 := by rw [← hLs2]; exact Nat.mul_lt_mul_of_pos_right hL3 hP
    have hloT : lo / 2 ^ (64 - s) < 2 ^ s := by rw [Nat.div_lt_iff_lt_mul hT, hPT]; exact hlo
    have hhy : hi * 2 ^ s + 2 ^ s ≤ d * 2 ^ s := by rw [← Nat.succ_mul]; exact Nat.mul_le_mul_right _ hhi
    have hsum := shift_sum (2 ^ s) (2 ^ (64 - s)) hi lo hPT hT
    have hor := or_join hi (lo / 2 ^ (64 - s)) s hloT (by omega)
    have hshl1 := shl_nat d s (by omega)
    have hshl2 := shl_nat hi s (by omega)
    have hshl3 := shl_nat lo s (by omega)
    have hshr1 := shr_nat lo (64 - s) (by omega)
    rw [Nat.mod_eq_of_lt hy2] at hshl1
    rw [Nat.mod_eq_of_lt (by omega)] at hshl2
    have hquo : (2 ^ s * (hi * 18446744073709551616 + lo)) / (d * 2 ^ s) = (hi * 18446744073709551616 + lo) / d := by rw [Nat.mul_comm d, Nat.mul_div_mul_left _ _ hP]
    have hrem : (2 ^ s * (hi * 18446744073709551616 + lo)) % (d * 2 ^ s) / 2 ^ s = (hi * 18446744073709551616 + lo) % d := by rw [Nat.mul_comm d, Nat.mul_mod_mul_left, Nat.mul_div_cancel_left _ hP]
    have hx : lo * 2 ^ s % 18446744073709551616 < 18446744073709551616 := Nat.mod_lt _ (by decide)
    obtain ⟨N, hN⟩ : ∃ N, N = hi * 18446744073709551616 + lo := ⟨_, rfl⟩
    obtain ⟨x, hxx⟩ : ∃ x, x = lo * 2 ^ s % 18446744073709551616 := ⟨_, rfl⟩
    obtain ⟨y, hyy⟩ : ∃ y, y = d * 2 ^ s := ⟨_, rfl⟩
    obtain ⟨u, huu⟩ : ∃ u, u = hi * 2 ^ s + lo / 2 ^ (64 - s) := ⟨_, rfl⟩
    rw [← hN] at hsum hquo hrem ⊢
    rw [← hxx] at hsum hshl3 hx
    rw [← hyy] at hy1 hy2 hhy hshl1 hquo hrem
    rw [← huu] at hsum hor
    have hu : u < y := by omega
    have hV1 : 2147483648 ≤ y / 4294967296 := by omega
    have hj := div_j2 (y / 4294967296) (y % 4294967296) u (x / 4294967296) (x % 4294967296) s y (Nat.div_add_mod' y 4294967296).symm hV1 (by omega) (by omega) (by omega) (by omega) hu
    rw [show u * 18446744073709551616 + x / 4294967296 * 4294967296 + x % 4294967296 = 2 ^ s * N by rw [Nat.add_assoc, Nat.div_add_mod' x 4294967296]; exact hsum, shr_nat _ s (by omega), hquo, hrem] at hj
    have hr1 : u / (y / 4294967296) * (y / 4294967296) + (u - u / (y / 4294967296) * (y / 4294967296)) = u := by have := Nat.div_mul_le_self u (y / 4294967296); omega
    have hr2 : u - u / (y / 4294967296) * (y / 4294967296) < y / 4294967296 := by have := Nat.lt_div_mul_add (a := u) (b := y / 4294967296) (by omega); omega
    have hg := guess_ge (y / 4294967296) (y % 4294967296) u (x / 4294967296) (by omega) (by omega)
    rw [Nat.div_add_mod' y 4294967296] at hg
    have hgl := guess_le (y / 4294967296) (y % 4294967296) u (by omega) (by omega) hV1
    have key := div_l0 (α := Unit) (y / 4294967296) (y % 4294967296) u (x / 4294967296) (x % 4294967296) s y (Nat.div_add_mod' y 4294967296).symm hV1 (by omega) (by omega) (by omega) hu _ hj (u / (y / 4294967296)) (u - u / (y / 4294967296) * (y / 4294967296)) hr1 (by omega) hg hgl
    refine Ev.congr (fun k => ?_) key
    unfold bits_Div64.f
    rw [if_neg (by omega), if_neg (by omega), if_neg (by omega), hLZ]
    simp only [Option.bind_some]
    have ey : ((y : Nat) : Int) / 4294967296 = ((y / 4294967296 : Nat) : Int) := by omega
    have ex : ((x : Nat) : Int) / 4294967296 = ((x / 4294967296 : Nat) : Int) := by omega
    rw [u64n (n := s) (by omega), show (64 : Int) - (s : Int) = ((64 - s : Nat) : Int) by omega, u64n (n := 64 - s) (by omega), hshl1, hshl2, hshl3, hshr1, hor, ey, ex, if_pos (by omega), if_pos (by omega), if_neg (by omega), and_mask y (by omega), and_mask x (by omega), Int.tdiv_eq_ediv_of_nonneg (by omega), ← Int.natCast_ediv, u64n (n := u / (y / 4294967296)) (by omega), ← Int.natCast_mul, u64n (n := u / (y / 4294967296) * (y / 4294967296)) (by omega), ← Int.natCast_sub (by omega), u64n (by omega)]
def ceilP (N d : Nat) : Int × Int := if (N + d - 1) / d ≤ 9223372036854775807 then ((((N + d - 1) / d : Nat) : Int), 0) else (0, 7)
theorem ceil_eq (N d : Nat) (hd : 0 < d) : (N + d - 1) / d = if 0 < N % d then N / d + 1 else N / d := by
  have h := Nat.div_add_mod N d
  have hm := Nat.mod_lt N hd
  generalize N / d = q at *
  generalize N % d = r at *
  subst h
  split
  · rw [show d * q + r + d - 1 = (r - 1) + d * (q + 1) by rw [Nat.mul_succ]; omega, Nat.add_mul_div_left _ _ hd, Nat.div_eq_of_lt (by omega)]; omega
  · rw [show d * q + r + d - 1 = (d - 1) + d * q by omega, Nat.add_mul_div_left _ _ hd, Nat.div_eq_of_lt (by omega)]; omega
theorem over_ev (hi lo d : Nat) (hd : 0 < d) (hd64 : d < 18446744073709551616) (hhi : hi < 18446744073709551616) (hlo : lo < 18446744073709551616) :
    Ev (fun k => quant_over.f k (hi : Int) (lo : Int) (d : Int)) (ceilP (hi * 18446744073709551616 + lo) d) := by
  by_cases h : d ≤ hi
  · have hbig : 18446744073709551616 ≤ (hi * 18446744073709551616 + lo + d - 1) / d := by
      rw [Nat.le_div_iff_mul_le hd]
      have : 18446744073709551616 * d ≤ 18446744073709551616 * hi := Nat.mul_le_mul_left _ h
      omega
    refine Ev.congr (f := fun _ => some _) (fun k => ?_) (Ev.now _)
    unfold quant_over.f ceilP
    rw [if_pos (by omega), if_neg (by omega)]
  · refine Ev.congr (fun k => by unfold quant_over.f; rw [if_neg (by omega)]) (Ev.bind (div_ev hi lo d hd hd64 (by omega) hlo) (Ev.congr (f := fun _ => some _) (fun k => ?_) (Ev.now _)))
    unfold ceilP
    rw [ceil_eq _ _ hd]
    have hq : (hi * 18446744073709551616 + lo) / d < 18446744073709551616 := by
      rw [Nat.div_lt_iff_lt_mul hd]
      have : 18446744073709551616 * (hi + 1) ≤ 18446744073709551616 * d := Nat.mul_le_mul_left _ (by omega)
      omega
    obtain ⟨q, hqq⟩ : ∃ q, q = (hi * 18446744073709551616 + lo) / d := ⟨_, rfl⟩
    obtain ⟨r, hrr⟩ : ∃ r, r = (hi * 18446744073709551616 + lo) % d := ⟨_, rfl⟩
    rw [← hqq] at hq
    rw [← hqq, ← hrr]
    clear hqq hrr
    simp only
    by_cases hr : 0 < r
    · rw [if_pos (by omega), if_pos hr]
      by_cases hz : q + 1 = 18446744073709551616
      · rw [show (q : Int) + 1 = 18446744073709551616 by omega, if_pos (by rw [u64w]; rfl), if_neg (by omega)]
      · rw [u64i (x := (q : Int) + 1) (by omega) (by omega), if_neg (by omega)]
        by_cases hb : q + 1 ≤ 9223372036854775807
        · rw [if_neg (by omega), if_pos hb, w64i (by omega) (by omega)]
          rfl
        · rw [if_pos (by omega), if_neg hb]
    · rw [if_neg (by omega), if_neg hr]
      by_cases hb : q ≤ 9223372036854775807
      · rw [if_neg (by omega), if_pos hb, w64i (by omega) (by omega)]
      · rw [if_pos (by omega), if_neg hb]
end Go.Proofs.YtejgbdclhlolkaaGreatDoor.Q
namespace Go.Proofs.YtejgbdclhlolkaaGreatDoor.Q
open Go.RowKit Go.Proofs.YtejgbdclhlolkaaGreatDoorW.PrintWords Go.Proofs.YtejgbdclhlolkaaGreatDoorW.PrintLast
set_option linter.unusedVariables false
set_option linter.unusedSimpArgs false
def isD (b : UInt8) : Bool := decide (48 ≤ b.toNat) && decide (b.toNat ≤ 57)
theorem contains_digit (b : UInt8) : digitsB.data.toList.contains b = isD b := by
  unfold isD digitsB
  rw [Bool.eq_iff_iff]
  simp only [List.contains_iff_mem, List.mem_cons, List.mem_nil_iff, or_false, Bool.and_eq_true, decide_eq_true_eq, ← UInt8.toNat_inj]
  simp
  omega
theorem dropWhile_nil {α : Type} (p : α → Bool) : ∀ l : List α, l.dropWhile p = [] ↔ ∀ x ∈ l, p x = true
  | [] => by simp
  | a :: l => by
    rw [List.dropWhile_cons]
    cases h : p a with
    | true => rw [if_pos rfl, dropWhile_nil p l]; simp [h]
    | false => rw [if_neg Bool.false_ne_true]; simp [h]
theorem dropWhile_head {α : Type} (p : α → Bool) : ∀ (l : List α) (a : α) (r : List α), l.dropWhile p = a :: r → p a = false
  | [], a, r, h => by simp at h
  | b :: l, a, r, h => by
    rw [List.dropWhile_cons] at h
    cases hb : p b with
    | true => rw [hb, if_pos rfl] at h; exact dropWhile_head p l a r h
    | false => rw [hb, if_neg Bool.false_ne_true] at h; injection h with h1 _; rw [← h1]; exact hb
theorem trim_nil (l : List UInt8) : Lib.trimS l digitsB.data.toList = [] ↔ ∀ b ∈ l, isD b = true := by
  have hc : (fun b => digitsB.data.toList.contains b) = isD := funext contains_digit
  unfold Lib.trimS Lib.trimLeftS Lib.trimRightS
  rw [hc, dropWhile_nil]
  constructor
  · intro h
    have hr : ∀ b ∈ l.reverse, isD b = true := by
      rw [← dropWhile_nil]
      cases hd : l.reverse.dropWhile isD with
      | nil => rfl
      | cons a r =>
        rw [hd] at h
        have h1 := h a (by simp)
        rw [dropWhile_head isD _ a r hd] at h1
        cases h1
    exact fun b hb => hr b (by simpa using hb)
  · intro h b hb
    have hr : l.reverse.dropWhile isD = [] := (dropWhile_nil isD _).2 (fun b hb => h b (by simpa using hb))
    rw [hr] at hb
    simp at hb
theorem allD_iff (s : ByteArray) : allD s = true ↔ s.data.toList ≠ [] ∧ ∀ b ∈ s.data.toList, isD b = true := by
  unfold allD
  rw [Bool.and_eq_true, ByteArray.toList_eq, Bool.not_eq_true', List.isEmpty_eq_false_iff, List.isEmpty_iff, trim_nil]
theorem allD_true {l : List UInt8} (h0 : l ≠ []) (h : ∀ b ∈ l, isD b = true) : allD ⟨l.toArray⟩ = true := (allD_iff _).2 ⟨by simpa using h0, by simpa using h⟩
theorem index_no : ∀ {l : List UInt8}, (∀ b ∈ l, b ≠ 46) → Lib.index l [46] = -1
  | [], _ => rfl
  | b :: l, h => by
    have h1 := index_no (l := l) (fun x hx => h x (by simp [hx]))
    have h2 : ([46] : List UInt8).isPrefixOf (b :: l) = false := by
      simp only [List.isPrefixOf, Bool.and_true, beq_eq_false_iff_ne]
      exact fun e => h b (by simp) e.symm
    unfold Lib.index
    rw [h2, h1]
    rfl
theorem index_at : ∀ {w : List UInt8} (r : List UInt8), (∀ b ∈ w, b ≠ 46) → Lib.index (w ++ 46 :: r) [46] = w.length
  | [], r, _ => by
    rw [List.nil_append]
    unfold Lib.index
    rw [if_pos (by simp [List.isPrefixOf])]
    rfl
  | b :: w, r, h => by
    have h1 := index_at (w := w) r (fun x hx => h x (by simp [hx]))
    have h2 : ([46] : List UInt8).isPrefixOf (b :: (w ++ 46 :: r)) = false := by
      simp only [List.isPrefixOf, Bool.and_true, beq_eq_false_iff_ne]
      exact fun e => h b (by simp) e.symm
    rw [List.cons_append]
    unfold Lib.index
    rw [h2, h1, if_neg Bool.false_ne_true, if_neg (by rw [beq_iff_eq]; omega), List.length_cons]
    omega
theorem cut_no {l : List UInt8} (h : ∀ b ∈ l, b ≠ 46) : Lib.cut l dotSep.data.toList = (l, [], false) := by
  unfold Lib.cut
  rw [show dotSep.data.toList = [46] from rfl, index_no h]
  rfl
theorem cut_dot {w : List UInt8} (r : List UInt8) (h : ∀ b ∈ w, b ≠ 46) : Lib.cut (w ++ 46 :: r) dotSep.data.toList = (w, r, true) := by
  unfold Lib.cut
  rw [show dotSep.data.toList = [46] from rfl, index_at r h, if_pos (by omega), Int.toNat_natCast, List.take_left' rfl]
  congr 2
  show (w ++ 46 :: r).drop (w.length + 1) = r
  rw [← List.drop_drop, List.drop_left' rfl]
  rfl
theorem digit_no_dot {b : UInt8} (h : isD b = true) : b ≠ 46 := fun e => by subst e; exact absurd h (by decide)
def decVal (acc : Nat) (l : List UInt8) : Nat := l.foldl (fun a c => a * 10 + (c.toNat - 48)) acc
theorem decVal_cons (acc : Nat) (c : UInt8) (r : List UInt8) : decVal acc (c :: r) = decVal (acc * 10 + (c.toNat - 48)) r := List.foldl_cons ..
theorem decVal_nil (acc : Nat) : decVal acc [] = acc := List.foldl_nil ..
theorem isD_val {c : UInt8} (h : isD c = true) : 48 ≤ c.toNat ∧ c.toNat ≤ 57 := by
  unfold isD at h
  simpa using h
theorem parse_digits (M : Nat) (hM : M = 18446744073709551615) : ∀ (l : List UInt8) (acc : Nat), (∀ b ∈ l, isD b = true) → l.length ≤ 19 → acc < 10 ^ (19 - l.length) → Lib.parseUintM M acc l = .ok (decVal acc l) ∧ decVal acc l < 10 ^ 19 := by
  intro l
  induction l with
  | nil => intro acc _ _ ha; rw [decVal_nil]; exact ⟨rfl, ha⟩
  | cons c r ih =>
    intro acc h hl ha
    have hc := isD_val (h c (by simp))
    rw [List.length_cons] at hl ha
    have h18 : 10 ^ (19 - (r.length + 1)) ≤ 10 ^ 18 := Nat.pow_le_pow_right (by decide) (by omega)
    have hp : 10 ^ (19 - r.length) = 10 ^ (19 - (r.length + 1)) * 10 := by rw [← Nat.pow_succ]; congr 1; omega
    have hstep : acc * 10 + (c.toNat - 48) < 10 ^ (19 - r.length) := by
      rw [hp]
      generalize 10 ^ (19 - (r.length + 1)) = P at *
      omega
    have key := ih (acc * 10 + (c.toNat - 48)) (fun b hb => h b (by simp [hb])) (by omega) hstep
    have h1 : ¬ 1844674407370955162 ≤ acc := by
      have e18 : (10 : Nat) ^ 18 = 1000000000000000000 := by decide
      omega
    have h2 : ¬ M < acc * 10 + (c.toNat - 48) := by
      have e18 : (10 : Nat) ^ 18 = 1000000000000000000 := by decide
      omega
    have hu : Lib.parseUintM M acc (c :: r) = Lib.parseUintM M (acc * 10 + (c.toNat - 48)) r := by
      conv => lhs; unfold Lib.parseUintM
      rw [if_pos hc, if_neg h1, if_neg h2]
    rw [hu, decVal_cons]
    exact key
theorem parse_ok (l : List UInt8) (h0 : l ≠ []) (h : ∀ b ∈ l, isD b = true) (hl : l.length ≤ 19) : Lib.parseUintB 64 l = .ok (decVal 0 l) ∧ decVal 0 l < 10 ^ 19 := by
  have := parse_digits (2 ^ 64 - 1) (by decide) l 0 h hl (Nat.pow_pos (by decide))
  unfold Lib.parseUintB
  rw [if_neg h0]
  exact this
theorem sfx_rev (text s : ByteArray) : sfxB text s = s.data.toList.reverse.isPrefixOf text.data.toList.reverse := rfl
theorem unit_of (text : ByteArray) (Q S : List UInt8) (c : UInt8) (i : Nat) (hi : i < 12) (hc : isD c = true) (hS : (unitsL[i]'hi).f0.data.toList = S) (ht : text.data.toList = Q ++ c :: S) : unitIx text = i := by
  have hr : text.data.toList.reverse = S.reverse ++ c :: Q.reverse := by rw [ht]; simp
  have hne : ∀ x : UInt8, isD x = false → (x == c) = false := fun x hx => beq_eq_false_iff_ne.2 (fun e => by rw [e, hc] at hx; cases hx)
  have n105 := hne 105 (by decide)
  have n107 := hne 107 (by decide)
  have n77 := hne 77 (by decide)
  have n71 := hne 71 (by decide)
  have n84 := hne 84 (by decide)
  have n80 := hne 80 (by decide)
  have n109 := hne 109 (by decide)
  refine unitIx_eq text i hi ?_ (fun j hj hji => ?_)
  · rw [sfx_rev, hr, hS, List.isPrefixOf_iff_prefix]
    exact List.prefix_append _ _
  · rw [sfx_rev, hr, ← hS]
    obtain rfl | rfl | rfl | rfl | rfl | rfl | rfl | rfl | rfl | rfl | rfl | rfl : i = 0 ∨ i = 1 ∨ i = 2 ∨ i = 3 ∨ i = 4 ∨ i = 5 ∨ i = 6 ∨ i = 7 ∨ i = 8 ∨ i = 9 ∨ i = 10 ∨ i = 11 := by omega
    all_goals
      obtain rfl | rfl | rfl | rfl | rfl | rfl | rfl | rfl | rfl | rfl | rfl : j = 0 ∨ j = 1 ∨ j = 2 ∨ j = 3 ∨ j = 4 ∨ j = 5 ∨ j = 6 ∨ j = 7 ∨ j = 8 ∨ j = 9 ∨ j = 10 := by omega
      all_goals first
        | (exfalso; omega)
        | simp [unitsL, List.isPrefixOf, n105, n107, n77, n71, n84, n80, n109]
theorem num_of (text : ByteArray) (P S : List UInt8) (s : ByteArray) (hs : s.data.toList = S) (ht : text.data.toList = P ++ S) : numOf text s = ⟨P.toArray⟩ := by
  unfold numOf Lib.trimSuffix
  have h : Lib.hasSuffix text.data.toList s.data.toList = true := by
    unfold Lib.hasSuffix
    rw [ht, hs, List.isSuffixOf_iff_suffix]
    exact List.suffix_append _ _
  rw [h, if_pos rfl, ht, hs, List.length_append, Nat.add_sub_cancel, List.take_left' rfl]
def numL (W D : List UInt8) (dot : Bool) : List UInt8 := if dot = true then W ++ 46 :: D else W
structure IsNum (W D : List UInt8) (dot : Bool) : Prop where
  w0 : W ≠ []
  wd : ∀ b ∈ W, isD b = true
  d0 : dot = true → D ≠ []
  dd : ∀ b ∈ D, isD b = true
  dn : dot = false → D = []
theorem num_cut {W D : List UInt8} {dot : Bool} (h : IsNum W D dot) : Lib.cut (numL W D dot) dotSep.data.toList = (W, D, dot) := by
  unfold numL
  cases dot with
  | true => rw [if_pos rfl, cut_dot D (fun b hb => digit_no_dot (h.wd b hb))]
  | false => rw [if_neg Bool.false_ne_true, cut_no (fun b hb => digit_no_dot (h.wd b hb)), h.dn rfl]
theorem num_last {W D : List UInt8} {dot : Bool} (h : IsNum W D dot) : ∃ Q c, numL W D dot = Q ++ [c] ∧ isD c = true := by
  unfold numL
  cases dot with
  | true =>
    rw [if_pos rfl]
    refine ⟨W ++ 46 :: D.dropLast, D.getLast (h.d0 rfl), ?_, h.dd _ (List.getLast_mem _)⟩
    rw [List.append_assoc, List.cons_append, List.dropLast_concat_getLast]
  | false =>
    rw [if_neg Bool.false_ne_true]
    exact ⟨W.dropLast, W.getLast h.w0, (List.dropLast_concat_getLast _).symm, h.wd _ (List.getLast_mem _)⟩
theorem unit_num (text : ByteArray) (W D S : List UInt8) (dot : Bool) (h : IsNum W D dot) (i : Nat) (hi : i < 12) (hS : (unitsL[i]'hi).f0.data.toList = S) (ht : text.data.toList = numL W D dot ++ S) : unitIx text = i := by
  obtain ⟨Q, c, hq, hc⟩ := num_last h
  refine unit_of text Q S c i hi hc hS ?_
  rw [ht, hq]; simp
theorem worth_lt (i : Nat) (hi : i < 12) : ∃ w : Nat, (unitsL[i]'hi).f1 = (w : Int) ∧ 0 < w ∧ w < 18446744073709551616 ∧ w = ((unitsL[i]'hi).f1).toNat := by
  have h : ∀ j : Fin 12, 0 < (unitsL[j.1]'j.2).f1 ∧ (unitsL[j.1]'j.2).f1 < 18446744073709551616 := by decide
  have := h ⟨i, hi⟩
  exact ⟨((unitsL[i]'hi).f1).toNat, by simp only at this; omega, by simp only at this; omega, by simp only at this; omega, rfl⟩
def parseAt (k : Nat) (text s : ByteArray) (wv : Int) : Option (Int × Int) :=
  if text.size < 4611686018427387904 ∧ (numOf text s).size ≤ text.size ∧ (wholeB (numOf text s)).size ≤ text.size ∧ (partB (numOf text s)).size ≤ text.size then
    (if goodB (numOf text s) = true then
      (match Lib.parseUintB 64 (wholeB (numOf text s) ++ partB (numOf text s)).data.toList with
        | .ok u => if u < 18446744073709551616 then quant_over.f k ((u : Int) * wv / 18446744073709551616) ((u : Int) * wv % 18446744073709551616) ((10 ^ (partB (numOf text s)).size : Nat) : Int) else none
        | _ => none)
    else some (0, 30)) else none
theorem parse_is (k : Nat) (text : ByteArray) : quant_Parse.f k text = parseAt k text (unitsL[unitIx text]'(unitIx_lt text)).f0 (unitsL[unitIx text]'(unitIx_lt text)).f1 := rfl
theorem unit_is (text : ByteArray) (i : Nat) (hi : i < 12) (h : unitIx text = i) : unitsL[unitIx text]'(unitIx_lt text) = unitsL[i]'hi := by
  have : ∀ j (hj : j < 12), j = i → unitsL[j]'hj = unitsL[i]'hi := by rintro j hj rfl; rfl
  exact this _ _ h
theorem parse_fwd (text : ByteArray) (W D S : List UInt8) (dot : Bool) (h : IsNum W D dot) (i : Nat) (hi : i < 12) (hS : (unitsL[i]'hi).f0.data.toList = S) (ht : text.data.toList = numL W D dot ++ S) (hl : W.length + D.length ≤ 19) (hsz : text.size < 4611686018427387904) :
    Ev (fun k => quant_Parse.f k text) (ceilP (decVal 0 (W ++ D) * ((unitsL[i]'hi).f1).toNat) (10 ^ D.length)) := by
  obtain ⟨wn, hw, hw0, hw64, hwn⟩ := worth_lt i hi
  have hix := unit_num text W D S dot h i hi hS ht
  have hu := unit_is text i hi hix
  have hn := num_of text (numL W D dot) S (unitsL[i]'hi).f0 hS ht
  have hW : wholeB ⟨(numL W D dot).toArray⟩ = ⟨W.toArray⟩ := by unfold wholeB; rw [List.toList_toArray, num_cut h]
  have hD : partB ⟨(numL W D dot).toArray⟩ = ⟨D.toArray⟩ := by unfold partB; rw [List.toList_toArray, num_cut h]
  have hdt : dotB ⟨(numL W D dot).toArray⟩ = dot := by unfold dotB; rw [List.toList_toArray, num_cut h]
  have hts : text.size = (numL W D dot).length + S.length := by rw [Lib.size_eq, ht, List.length_append]
  have hnl : W.length + D.length ≤ (numL W D dot).length := by
    unfold numL
    cases hd : dot with
    | true => rw [if_pos rfl, List.length_append, List.length_cons]; omega
    | false => rw [if_neg Bool.false_ne_true, h.dn hd]; simp
  have hg : goodB ⟨(numL W D dot).toArray⟩ = true := by
    unfold goodB
    rw [hW, hD, hdt, allD_true h.w0 h.wd]
    have e : decide ((⟨W.toArray⟩ : ByteArray).size + (⟨D.toArray⟩ : ByteArray).size ≤ 19) = true := decide_eq_true (by rw [Lib.size_eq, Lib.size_eq]; simpa using hl)
    rw [e]
    cases hd : dot with
    | true => rw [allD_true (h.d0 hd) h.dd]; rfl
    | false => rfl
  have hcat : ((⟨W.toArray⟩ : ByteArray) ++ (⟨D.toArray⟩ : ByteArray)).data.toList = W ++ D := by simp [ByteArray.data_append]
  have hpo := parse_ok (W ++ D) (by simp [h.w0]) (fun b hb => by rcases List.mem_append.1 hb with hb | hb; exact h.wd b hb; exact h.dd b hb) (by simpa using hl)
  have hu64 : decVal 0 (W ++ D) < 18446744073709551616 := by have := hpo.2; omega
  have hpw : (10 : Nat) ^ D.length ≤ 10 ^ 19 := Nat.pow_le_pow_right (by decide) (by omega)
  have hpw0 : 0 < (10 : Nat) ^ D.length := Nat.pow_pos (by decide)
  have hprod : decVal 0 (W ++ D) * wn < 18446744073709551616 * 18446744073709551616 := Nat.lt_of_le_of_lt (Nat.mul_le_mul_left _ (Nat.le_of_lt hw64)) (Nat.mul_lt_mul_of_pos_right hu64 (by decide))
  have hov := over_ev (decVal 0 (W ++ D) * wn / 18446744073709551616) (decVal 0 (W ++ D) * wn % 18446744073709551616) (10 ^ D.length) hpw0 (by omega) (by rw [Nat.div_lt_iff_lt_mul (by decide)]; exact hprod) (Nat.mod_lt _ (by decide))
  rw [Nat.div_add_mod' , hwn] at hov
  refine Ev.congr (fun k => ?_) hov
  rw [parse_is, hu]
  unfold parseAt
  rw [hn, hW, hD, hcat, hpo.1]
  have hsD : (⟨D.toArray⟩ : ByteArray).size = D.length := by rw [Lib.size_eq]
  have hsW : (⟨W.toArray⟩ : ByteArray).size = W.length := by rw [Lib.size_eq]
  have hsN : (⟨(numL W D dot).toArray⟩ : ByteArray).size = (numL W D dot).length := by rw [Lib.size_eq]
  rw [hsD, hsW, hsN, if_pos ⟨hsz, by omega, by omega, by omega⟩, if_pos hg]
  dsimp only
  rw [if_pos hu64, ← hwn, hw, ← Int.natCast_mul]
  rfl
end Go.Proofs.YtejgbdclhlolkaaGreatDoor.Q
namespace Go.Proofs.YtejgbdclhlolkaaGreatDoor.Q
open Go.RowKit Go.Proofs.YtejgbdclhlolkaaGreatDoorW.PrintWords Go.Proofs.YtejgbdclhlolkaaGreatDoorW.PrintLast
set_option linter.unusedVariables false
set_option linter.unusedSimpArgs false
def nd (n : Nat) : Nat := (Lib.decDigits n).length
theorem decVal_app (l r : List UInt8) : ∀ acc, decVal acc (l ++ r) = decVal (decVal acc l) r := by
  induction l with
  | nil => intro acc; rfl
  | cons c l ih => intro acc; rw [List.cons_append, decVal_cons, decVal_cons]; exact ih _
def sufB (i : Nat) : ByteArray := (unitsL.getD i ⟨⟨#[]⟩, 0⟩).f0
def wN (i : Nat) : Nat := (unitsL.getD i ⟨⟨#[]⟩, 0⟩).f1.toNat
end Go.Proofs.YtejgbdclhlolkaaGreatDoor.Q
namespace Go.Proofs.YtejgbdclhlolkaaGreatDoor.Q
open Go.RowKit Go.Proofs.YtejgbdclhlolkaaGreatDoorW.PrintWords Go.Proofs.YtejgbdclhlolkaaGreatDoorW.PrintLast
set_option linter.unusedVariables false
set_option linter.unusedSimpArgs false
theorem wN_get (i : Nat) (hi : i < 12) : ((unitsL[i]'hi).f1).toNat = wN i := by
  unfold wN
  rw [List.getD_eq_getElem?_getD, List.getElem?_eq_getElem (show i < unitsL.length from hi)]
  rfl
theorem sufB_get (i : Nat) (hi : i < 12) : (unitsL[i]'hi).f0 = sufB i := by
  unfold sufB
  rw [List.getD_eq_getElem?_getD, List.getElem?_eq_getElem (show i < unitsL.length from hi)]
  rfl
theorem wN_pos (i : Nat) (hi : i < 12) : 0 < wN i := by
  have h : ∀ j : Fin 12, 0 < wN j.1 := by decide
  exact h ⟨i, hi⟩
theorem cut_or (l : List UInt8) : ∃ w r d, Lib.cut l dotSep.data.toList = (w, r, d) ∧ w.length ≤ l.length ∧ r.length ≤ l.length ∧ (d = false → r = []) ∧ l = (if d = true then w ++ 46 :: r else w) := by
  by_cases h : ∀ b ∈ l, b ≠ 46
  · exact ⟨l, [], false, cut_no h, Nat.le_refl _, Nat.zero_le _, fun _ => rfl, rfl⟩
  · have : ∃ w r, l = w ++ 46 :: r ∧ ∀ b ∈ w, b ≠ 46 := by
      induction l with
      | nil => exact absurd (fun b hb => (by simp at hb)) h
      | cons a l ih =>
        by_cases ha : a = 46
        · subst ha; exact ⟨[], l, rfl, fun b hb => (by simp at hb)⟩
        · obtain ⟨w, r, e, hw⟩ := ih (fun hh => h (fun b hb => (List.mem_cons.1 hb).elim (fun e => e ▸ ha) (hh b)))
          exact ⟨a :: w, r, by rw [e]; rfl, fun b hb => (List.mem_cons.1 hb).elim (fun e => e ▸ ha) (hw b)⟩
    obtain ⟨w, r, rfl, hw⟩ := this
    exact ⟨w, r, true, cut_dot r hw, by simp, by simp; omega, fun h => (by cases h), rfl⟩
theorem trim_le (text s : ByteArray) : (numOf text s).size ≤ text.size := by
  unfold numOf Lib.trimSuffix
  rw [Lib.size_eq, Lib.size_eq text]
  split
  · simp <;> omega
  · simp
theorem parse_all (text : ByteArray) (hsz : text.size < 4611686018427387904) : Ev (fun k => quant_Parse.f k text) (0, 30) ∨ ∃ (W D : List UInt8) (dot : Bool) (i : Nat) (hi : i < 12), IsNum W D dot ∧ W.length + D.length ≤ 19 ∧ text.data.toList = numL W D dot ++ (sufB i).data.toList := by
  have hi := unitIx_lt text
  have hsf : sfxB text (unitsL[unitIx text]'hi).f0 = true := List.findIdx_getElem (p := fun u : S66 => sfxB text u.f0) (xs := unitsL) (w := hi)
  obtain ⟨s, hs⟩ : ∃ s, s = (unitsL[unitIx text]'hi).f0 := ⟨_, rfl⟩
  rw [← hs] at hsf
  have hss : s = sufB (unitIx text) := by rw [hs, sufB_get]
  have hdec : text.data.toList = (numOf text s).data.toList ++ s.data.toList := by
    unfold sfxB at hsf
    unfold numOf Lib.trimSuffix
    rw [hsf, if_pos rfl, List.toList_toArray]
    have h1 := hsf
    unfold Lib.hasSuffix at h1
    rw [List.isSuffixOf_iff_suffix] at h1
    obtain ⟨t, ht⟩ := h1
    rw [← ht, List.length_append, Nat.add_sub_cancel, List.take_left' rfl]
  obtain ⟨w, r, d, hc, hwl, hrl, hrd, hsplit⟩ := cut_or (numOf text s).data.toList
  have hW : wholeB (numOf text s) = ⟨w.toArray⟩ := by unfold wholeB; rw [hc]
  have hD : partB (numOf text s) = ⟨r.toArray⟩ := by unfold partB; rw [hc]
  have hdt : dotB (numOf text s) = d := by unfold dotB; rw [hc]
  have hnl := trim_le text s
  rw [Lib.size_eq (numOf text s)] at hnl
  have hsD : (⟨r.toArray⟩ : ByteArray).size = r.length := by rw [Lib.size_eq]
  have hsW : (⟨w.toArray⟩ : ByteArray).size = w.length := by rw [Lib.size_eq]
  by_cases hg : goodB (numOf text s) = true
  · right
    unfold goodB at hg
    rw [hW, hD, hdt, hsD, hsW] at hg
    simp only [Bool.and_eq_true, decide_eq_true_eq, Bool.or_eq_true, Bool.not_eq_true'] at hg
    obtain ⟨⟨h1, h2⟩, h3⟩ := hg
    have hw := (allD_iff _).1 h1
    rw [List.toList_toArray] at hw
    refine ⟨w, r, d, unitIx text, hi, ⟨hw.1, hw.2, fun hd => ?_, fun b hb => ?_, hrd⟩, h3, ?_⟩
    · rcases h2 with h2 | h2
      · rw [hd] at h2; cases h2
      · have := (allD_iff _).1 h2; rw [List.toList_toArray] at this; exact this.1
    · rcases h2 with h2 | h2
      · rw [hrd h2] at hb; simp at hb
      · have := (allD_iff _).1 h2; rw [List.toList_toArray] at this; exact this.2 b hb
    · rw [hdec, ← hss]
      congr 1
  · left
    refine Ev.congr (f := fun _ => some (0, 30)) (fun k => ?_) (Ev.now _)
    rw [parse_is, ← hs]
    unfold parseAt
    rw [if_pos ⟨hsz, trim_le text s, by rw [hW, hsW]; omega, by rw [hD, hsD]; omega⟩, if_neg hg]
end Go.Proofs.YtejgbdclhlolkaaGreatDoor.Q
namespace Go.Proofs.YtejgbdclhlolkaaGreatDoor.Q
open Go.RowKit Go.Proofs.YtejgbdclhlolkaaGreatDoorW.PrintWords Go.Proofs.YtejgbdclhlolkaaGreatDoorW.PrintLast Go.Proofs.YtejgbdclhlolkaaGreatDoorW.PrintMore
attribute [local go_sem] max2_int min2_int max_two min_two max_three min_three max_four min_four   -- for this text's walks alone
set_option linter.unusedVariables false
set_option linter.unusedSimpArgs false
def quant_Of.l0 : Nat → ByteArray → List (S57) → Int → Int → Option (Int × Bool)
|0,_,_,_,_ => none
|k + 1,x1,x8,x9,x10 => if x10 < x9 then (if 0 ≤ x10 then (if x10 < (x8.length : Int) then (if ((rd_T57 x8 x10).f0).toList = x1.toList then (some ((rd_T57 x8 x10).f1,true)) else (quant_Of.l0 k x1 x8 x9 (wrap64 (x10 + 1)))) else (none)) else (none)) else (some (0,false))
def quant_Of.f (k : Nat) (l0 : List (S57)) (a1 : ByteArray) : Option (Int × Bool) := quant_Of.l0 k a1 l0 (l0.length : Int) 0
theorem quant_Of.mono_l : ∀ k, (∀ y0 y1 y2 y3, LeO (quant_Of.l0 k y0 y1 y2 y3) (quant_Of.l0 (k + 1) y0 y1 y2 y3))
|0 => fun _ _ _ _ r h => by simp [quant_Of.l0] at h
|k + 1 => by
  have ih0:=quant_Of.mono_l k
  ·intro y0 y1 y2 y3
   unfold quant_Of.l0
   repeat' first
  |(with_reducible exact ih0 _ _ _ _)
  |(with_reducible exact LeO.refl _)
  |(with_reducible exact LeO.none _)
  |(with_reducible refine LeO.ite ?_ ?_)
  |(with_reducible refine LeO.bind ?_ (fun _ => ?_))
  |exact ih0 _ _ _ _
  |exact LeO.none _
  |refine LeO.ite ?_ ?_
  |refine LeO.bind ?_ (fun _ => ?_)
theorem quant_Of.mono : ∀ a0 a1 k, LeO (quant_Of.f k a0 a1) (quant_Of.f (k + 1) a0 a1) := by
 intro a0 a1 k
 have ih0:=quant_Of.mono_l k
 unfold quant_Of.f
 repeat' first
  |(with_reducible exact ih0 _ _ _ _)
  |(with_reducible exact LeO.refl _)
  |(with_reducible exact LeO.none _)
  |(with_reducible refine LeO.ite ?_ ?_)
  |(with_reducible refine LeO.bind ?_ (fun _ => ?_))
  |exact ih0 _ _ _ _
  |exact LeO.none _
  |refine LeO.ite ?_ ?_
  |refine LeO.bind ?_ (fun _ => ?_)
end Go.Proofs.YtejgbdclhlolkaaGreatDoor.Q
namespace Go.Proofs.YtejgbdclhlolkaaGreatDoor.Q
open Go.RowKit Go.Proofs.YtejgbdclhlolkaaGreatDoorW.PrintWords Go.Proofs.YtejgbdclhlolkaaGreatDoorW.PrintLast Go.Proofs.YtejgbdclhlolkaaGreatDoorW.PrintMore
attribute [local go_sem] max2_int min2_int max_two min_two max_three min_three max_four min_four   -- for this text's walks alone
set_option linter.unusedVariables false
set_option linter.unusedSimpArgs false
def bursarref03_Of.l0 : Nat → List (S57) → ByteArray → Int → Option (Int × Bool)
|0,_,_,_ => none
|k + 1,x0,x1,x6 => if x6 < (x0.length : Int) then (if 0 ≤ x6 then (if ((rd_T57 x0 x6).f0).toList = x1.toList then (some ((rd_T57 x0 x6).f1,true)) else (bursarref03_Of.l0 k x0 x1 (wrap64 (x6 + 1)))) else (none)) else (some (0,false))
def bursarref03_Of.f (k : Nat) (l0 : List (S57)) (a1 : ByteArray) : Option (Int × Bool) := bursarref03_Of.l0 k l0 a1 0
theorem bursarref03_Of.mono_l : ∀ k, (∀ y0 y1 y2, LeO (bursarref03_Of.l0 k y0 y1 y2) (bursarref03_Of.l0 (k + 1) y0 y1 y2))
|0 => fun _ _ _ r h => by simp [bursarref03_Of.l0] at h
|k + 1 => by
  have ih0:=bursarref03_Of.mono_l k
  ·intro y0 y1 y2
   unfold bursarref03_Of.l0
   repeat' first
  |(with_reducible exact ih0 _ _ _)
  |(with_reducible exact LeO.refl _)
  |(with_reducible exact LeO.none _)
  |(with_reducible refine LeO.ite ?_ ?_)
  |(with_reducible refine LeO.bind ?_ (fun _ => ?_))
  |exact ih0 _ _ _
  |exact LeO.none _
  |refine LeO.ite ?_ ?_
  |refine LeO.bind ?_ (fun _ => ?_)
theorem bursarref03_Of.mono : ∀ a0 a1 k, LeO (bursarref03_Of.f k a0 a1) (bursarref03_Of.f (k + 1) a0 a1) := by
 intro a0 a1 k
 have ih0:=bursarref03_Of.mono_l k
 unfold bursarref03_Of.f
 repeat' first
  |(with_reducible exact ih0 _ _ _)
  |(with_reducible exact LeO.refl _)
  |(with_reducible exact LeO.none _)
  |(with_reducible refine LeO.ite ?_ ?_)
  |(with_reducible refine LeO.bind ?_ (fun _ => ?_))
  |exact ih0 _ _ _
  |exact LeO.none _
  |refine LeO.ite ?_ ?_
  |refine LeO.bind ?_ (fun _ => ?_)
end Go.Proofs.YtejgbdclhlolkaaGreatDoor.Q
namespace Go.Proofs.YtejgbdclhlolkaaGreatDoor.Q
open Go.RowKit Go.Proofs.YtejgbdclhlolkaaGreatDoorW.PrintWords Go.Proofs.YtejgbdclhlolkaaGreatDoorW.PrintLast Go.Proofs.YtejgbdclhlolkaaGreatDoorW.PrintMore
attribute [local go_sem] max2_int min2_int max_two min_two max_three min_three max_four min_four   -- for this text's walks alone
set_option linter.unusedVariables false
set_option linter.unusedSimpArgs false
attribute [local go_sem high] eqA57
def bursarlaw03_same.l0 : Nat → List (S57) → List (S57) → Int → Option (Bool)
|0,_,_,_ => none
|k + 1,x0,x1,x5 => if x5 < (x0.length : Int) then (if 0 ≤ x5 then (if x5 < (x1.length : Int) then (if (!((((rd_T57 x0 x5).f0).toList) == (((rd_T57 x1 x5).f0).toList)) || (!(((rd_T57 x0 x5).f1) == ((rd_T57 x1 x5).f1)))) = true then (some false) else (bursarlaw03_same.l0 k x0 x1 (wrap64 (x5 + 1)))) else (none)) else (none)) else (some true)
def bursarlaw03_same.f (k : Nat) (l0 : List (S57)) (l1 : List (S57)) : Option (Bool) := if (l0.length : Int) = (l1.length : Int) then (bursarlaw03_same.l0 k l0 l1 0) else (some false)
theorem bursarlaw03_same.mono_l : ∀ k, (∀ y0 y1 y2, LeO (bursarlaw03_same.l0 k y0 y1 y2) (bursarlaw03_same.l0 (k + 1) y0 y1 y2))
|0 => fun _ _ _ r h => by simp [bursarlaw03_same.l0] at h
|k + 1 => by
  have ih0:=bursarlaw03_same.mono_l k
  ·intro y0 y1 y2
   unfold bursarlaw03_same.l0
   repeat' first
  |(with_reducible exact ih0 _ _ _)
  |(with_reducible exact LeO.refl _)
  |(with_reducible exact LeO.none _)
  |(with_reducible refine LeO.ite ?_ ?_)
  |(with_reducible refine LeO.bind ?_ (fun _ => ?_))
  |exact ih0 _ _ _
  |exact LeO.none _
  |refine LeO.ite ?_ ?_
  |refine LeO.bind ?_ (fun _ => ?_)
theorem bursarlaw03_same.mono : ∀ a0 a1 k, LeO (bursarlaw03_same.f k a0 a1) (bursarlaw03_same.f (k + 1) a0 a1) := by
 intro a0 a1 k
 have ih0:=bursarlaw03_same.mono_l k
 unfold bursarlaw03_same.f
 repeat' first
  |(with_reducible exact ih0 _ _ _)
  |(with_reducible exact LeO.refl _)
  |(with_reducible exact LeO.none _)
  |(with_reducible refine LeO.ite ?_ ?_)
  |(with_reducible refine LeO.bind ?_ (fun _ => ?_))
  |exact ih0 _ _ _
  |exact LeO.none _
  |refine LeO.ite ?_ ?_
  |refine LeO.bind ?_ (fun _ => ?_)
end Go.Proofs.YtejgbdclhlolkaaGreatDoor.Q
namespace Go.Proofs.YtejgbdclhlolkaaGreatDoor.Q
open Go.RowKit Go.Proofs.YtejgbdclhlolkaaGreatDoorW.PrintWords Go.Proofs.YtejgbdclhlolkaaGreatDoorW.PrintLast
set_option linter.unusedVariables false
set_option linter.unusedSimpArgs false
def markS : S57 := ⟨⟨#[109, 97, 114, 107]⟩, 77⟩
def bursarlaw03_behind.f (l0 : List S57) : Option (List S57) := if l0.length ≤ 4000000000 then some (l0 ++ [markS]) else none
end Go.Proofs.YtejgbdclhlolkaaGreatDoor.Q
namespace Go.Proofs.YtejgbdclhlolkaaGreatDoor.Q
open Go.RowKit Go.Proofs.YtejgbdclhlolkaaGreatDoorW.PrintWords Go.Proofs.YtejgbdclhlolkaaGreatDoorW.PrintLast
attribute [local go_sem high] eqA57
set_option linter.unusedVariables false
set_option linter.unusedSimpArgs false
def bursarlaw03_untouched.f (k : Nat) (l0 l1 : List S57) : Option Bool :=
  if 4000000000 < l1.length then none else if l0.length = l1.length + 1 then ((bursarlaw03_same.f k (l0.take l1.length) l1).bind fun t => if t = true then some ((rd_T57 l0 (l1.length : Int)).f0.toList == (⟨#[109, 97, 114, 107]⟩ : ByteArray).toList && ((rd_T57 l0 (l1.length : Int)).f1 == 77)) else some false) else some false
theorem bursarlaw03_untouched.mono : ∀ a0 a1 k, LeO (bursarlaw03_untouched.f k a0 a1) (bursarlaw03_untouched.f (k + 1) a0 a1) := by
  intro a0 a1 k
  unfold bursarlaw03_untouched.f
  repeat' first
    | exact LeO.refl _
    | refine LeO.ite ?_ ?_
    | (refine LeO.bind (bursarlaw03_same.mono _ _ _) (fun _ => ?_))
end Go.Proofs.YtejgbdclhlolkaaGreatDoor.Q
namespace Go.Proofs.YtejgbdclhlolkaaGreatDoor.Q
open Go.RowKit Go.Proofs.YtejgbdclhlolkaaGreatDoorW.PrintWords Go.Proofs.YtejgbdclhlolkaaGreatDoorW.PrintLast
set_option linter.unusedVariables false
set_option linter.unusedSimpArgs false
theorem wl (i : Nat) (h : i < 9223372036854775807) : wrap64 ((i : Int) + 1) = ((i + 1 : Nat) : Int) := by unfold wrap64; omega
end Go.Proofs.YtejgbdclhlolkaaGreatDoor.Q
namespace Go.Proofs.YtejgbdclhlolkaaGreatDoor.Q
open Go.RowKit Go.Proofs.YtejgbdclhlolkaaGreatDoorW.PrintWords Go.Proofs.YtejgbdclhlolkaaGreatDoorW.PrintLast Go.Proofs.LongLaw
set_option linter.unusedVariables false
set_option linter.unusedSimpArgs false
def sufL : List S87 := [⟨(⟨#[109]⟩ : ByteArray), ⟨[1]⟩⟩,
  ⟨(⟨#[]⟩ : ByteArray), ⟨[0, 0, 0, 1]⟩⟩,
  ⟨(⟨#[107]⟩ : ByteArray), ⟨[0, 0, 0, 0, 0, 0, 1]⟩⟩,
  ⟨(⟨#[77]⟩ : ByteArray), ⟨[0, 0, 0, 0, 0, 0, 0, 0, 0, 1]⟩⟩,
  ⟨(⟨#[71]⟩ : ByteArray), ⟨[0, 0, 0, 0, 0, 0, 0, 0, 0, 0, 0, 0, 1]⟩⟩,
  ⟨(⟨#[84]⟩ : ByteArray), ⟨[0, 0, 0, 0, 0, 0, 0, 0, 0, 0, 0, 0, 0, 0, 0, 1]⟩⟩,
  ⟨(⟨#[80]⟩ : ByteArray), ⟨[0, 0, 0, 0, 0, 0, 0, 0, 0, 0, 0, 0, 0, 0, 0, 0, 0, 0, 1]⟩⟩,
  ⟨(⟨#[75, 105]⟩ : ByteArray), ⟨[0, 0, 0, 4, 2, 0, 1]⟩⟩,
  ⟨(⟨#[77, 105]⟩ : ByteArray), ⟨[0, 0, 0, 6, 7, 5, 8, 4, 0, 1]⟩⟩,
  ⟨(⟨#[71, 105]⟩ : ByteArray), ⟨[0, 0, 0, 4, 2, 8, 1, 4, 7, 3, 7, 0, 1]⟩⟩,
  ⟨(⟨#[84, 105]⟩ : ByteArray), ⟨[0, 0, 0, 6, 7, 7, 7, 2, 6, 1, 1, 5, 9, 9, 0, 1]⟩⟩,
  ⟨(⟨#[80, 105]⟩ : ByteArray), ⟨[0, 0, 0, 4, 2, 6, 2, 4, 8, 6, 0, 9, 9, 9, 8, 5, 2, 1, 1]⟩⟩]
set_option maxRecDepth 100000 in
theorem suf_at : bursarref03_suffixes.f 400 = some sufL := by kernel_rfl
theorem suffixes_ev : Ev (fun k => bursarref03_suffixes.f k) sufL := Ev.of (fun k => bursarref03_suffixes.mono k) suf_at
def unitR (i : Nat) : Nat := [10, 11, 5, 6, 7, 8, 9, 0, 1, 2, 3, 4].getD i 0
theorem long_lit (l : List Int) (n : Nat) (h : ∀ x ∈ l, 0 ≤ x ∧ x ≤ 9) (h1 : l.getD (l.length - 1) 0 ≠ 0) (e : (dval l).toNat = n) : l = longL n := by
  rw [← e]
  exact (longL_dval h (.inr h1)).symm
theorem suf_get (i : Nat) (hi : i < 12) : (rd_T87 sufL (i : Int)).f0 = sufB (unitR i) ∧ (rd_T87 sufL (i : Int)).f1.f0 = longL (wN (unitR i)) ∧ unitR i < 12 := by
  obtain rfl | rfl | rfl | rfl | rfl | rfl | rfl | rfl | rfl | rfl | rfl | rfl : i = 0 ∨ i = 1 ∨ i = 2 ∨ i = 3 ∨ i = 4 ∨ i = 5 ∨ i = 6 ∨ i = 7 ∨ i = 8 ∨ i = 9 ∨ i = 10 ∨ i = 11 := by omega
  · exact ⟨rfl, long_lit [1] _ (by decide) (by decide) (by kernel_rfl), by decide⟩
  · exact ⟨rfl, long_lit [0, 0, 0, 1] _ (by decide) (by decide) (by kernel_rfl), by decide⟩
  · exact ⟨rfl, long_lit [0, 0, 0, 0, 0, 0, 1] _ (by decide) (by decide) (by kernel_rfl), by decide⟩
  · exact ⟨rfl, long_lit [0, 0, 0, 0, 0, 0, 0, 0, 0, 1] _ (by decide) (by decide) (by kernel_rfl), by decide⟩
  · exact ⟨rfl, long_lit [0, 0, 0, 0, 0, 0, 0, 0, 0, 0, 0, 0, 1] _ (by decide) (by decide) (by kernel_rfl), by decide⟩
  · exact ⟨rfl, long_lit [0, 0, 0, 0, 0, 0, 0, 0, 0, 0, 0, 0, 0, 0, 0, 1] _ (by decide) (by decide) (by kernel_rfl), by decide⟩
  · exact ⟨rfl, long_lit [0, 0, 0, 0, 0, 0, 0, 0, 0, 0, 0, 0, 0, 0, 0, 0, 0, 0, 1] _ (by decide) (by decide) (by kernel_rfl), by decide⟩
  · exact ⟨rfl, long_lit [0, 0, 0, 4, 2, 0, 1] _ (by decide) (by decide) (by kernel_rfl), by decide⟩
  · exact ⟨rfl, long_lit [0, 0, 0, 6, 7, 5, 8, 4, 0, 1] _ (by decide) (by decide) (by kernel_rfl), by decide⟩
  · exact ⟨rfl, long_lit [0, 0, 0, 4, 2, 8, 1, 4, 7, 3, 7, 0, 1] _ (by decide) (by decide) (by kernel_rfl), by decide⟩
  · exact ⟨rfl, long_lit [0, 0, 0, 6, 7, 7, 7, 2, 6, 1, 1, 5, 9, 9, 0, 1] _ (by decide) (by decide) (by kernel_rfl), by decide⟩
  · exact ⟨rfl, long_lit [0, 0, 0, 4, 2, 6, 2, 4, 8, 6, 0, 9, 9, 9, 8, 5, 2, 1, 1] _ (by decide) (by decide) (by kernel_rfl), by decide⟩
theorem suf_len : sufL.length = 12 := rfl
theorem long19 {n : Nat} (h : n ≤ 9223372036854775807) : (longL n).length ≤ 19 := longL_le 19 n (by omega)
theorem wN_le (i : Nat) (hi : i < 12) : wN i ≤ 9223372036854775807 := by
  have h : ∀ j : Fin 12, wN j.1 ≤ 9223372036854775807 := by decide
  exact h ⟨i, hi⟩
end Go.Proofs.YtejgbdclhlolkaaGreatDoor.Q
namespace Go.Proofs.YtejgbdclhlolkaaGreatDoor.Q
end Go.Proofs.YtejgbdclhlolkaaGreatDoor.Q
namespace Go.Proofs.YtejgbdclhlolkaaGreatDoor.Q
open Go.RowKit Go.Proofs.YtejgbdclhlolkaaGreatDoorW.PrintWords Go.Proofs.YtejgbdclhlolkaaGreatDoorW.PrintLast Go.Proofs.YtejgbdclhlolkaaGreatDoorW.PrintMore
attribute [local go_sem] max2_int min2_int max_two min_two max_three min_three max_four min_four   -- for this text's walks alone
set_option linter.unusedVariables false
set_option linter.unusedSimpArgs false
def bursarref03_piece.l0 : Nat → ByteArray → Int → Option (Bool)
|0,_,_ => none
|k + 1,x0,x3 => if x3 < (x0.size : Int) then (if 0 ≤ x3 then (if (bt x0 x3) ≥ 97 then (if (bt x0 x3) ≤ 122 then (bursarref03_piece.l0 k x0 (wrap64 (x3 + 1))) else ((bursarref03_digit.f (bt x0 x3)).bind fun t710 => (if t710 = true then (bursarref03_piece.l0 k x0 (wrap64 (x3 + 1))) else (if (bt x0 x3) = 45 then (if x3 = 0 then (some false) else (if x3 = (wrap64 ((x0.size : Int) - 1)) then (some false) else (bursarref03_piece.l0 k x0 (wrap64 (x3 + 1))))) else (some false))))) else ((bursarref03_digit.f (bt x0 x3)).bind fun t711 => (if t711 = true then (bursarref03_piece.l0 k x0 (wrap64 (x3 + 1))) else (if (bt x0 x3) = 45 then (if x3 = 0 then (some false) else (if x3 = (wrap64 ((x0.size : Int) - 1)) then (some false) else (bursarref03_piece.l0 k x0 (wrap64 (x3 + 1))))) else (some false))))) else (none)) else (some (x0.toList != ([] : List UInt8)))
def bursarref03_piece.f (k : Nat) (a0 : ByteArray) : Option (Bool) := bursarref03_piece.l0 k a0 0
theorem bursarref03_piece.mono_l : ∀ k, (∀ y0 y1, LeO (bursarref03_piece.l0 k y0 y1) (bursarref03_piece.l0 (k + 1) y0 y1))
|0 => fun _ _ r h => by simp [bursarref03_piece.l0] at h
|k + 1 => by
  have ih0:=bursarref03_piece.mono_l k
  ·intro y0 y1
   unfold bursarref03_piece.l0
   repeat' first
  |(with_reducible exact ih0 _ _)
  |(with_reducible exact LeO.refl _)
  |(with_reducible exact LeO.none _)
  |(with_reducible refine LeO.ite ?_ ?_)
  |(with_reducible refine LeO.bind ?_ (fun _ => ?_))
  |exact ih0 _ _
  |exact LeO.none _
  |refine LeO.ite ?_ ?_
  |refine LeO.bind ?_ (fun _ => ?_)
theorem bursarref03_piece.mono : ∀ a0 k, LeO (bursarref03_piece.f k a0) (bursarref03_piece.f (k + 1) a0) := by
 intro a0 k
 have ih0:=bursarref03_piece.mono_l k
 unfold bursarref03_piece.f
 repeat' first
  |(with_reducible exact ih0 _ _)
  |(with_reducible exact LeO.refl _)
  |(with_reducible exact LeO.none _)
  |(with_reducible refine LeO.ite ?_ ?_)
  |(with_reducible refine LeO.bind ?_ (fun _ => ?_))
  |exact ih0 _ _
  |exact LeO.none _
  |refine LeO.ite ?_ ?_
  |refine LeO.bind ?_ (fun _ => ?_)
end Go.Proofs.YtejgbdclhlolkaaGreatDoor.Q
namespace Go.Proofs.YtejgbdclhlolkaaGreatDoor.Q
open Go.RowKit Go.Proofs.YtejgbdclhlolkaaGreatDoorW.PrintWords Go.Proofs.YtejgbdclhlolkaaGreatDoorW.PrintLast Go.Proofs.YtejgbdclhlolkaaGreatDoorW.PrintMore
attribute [local go_sem] max2_int min2_int max_two min_two max_three min_three max_four min_four   -- for this text's walks alone
set_option linter.unusedVariables false
set_option linter.unusedSimpArgs false
def bursarref03_Resource.l0 : Nat → ByteArray → Int → Int → Option (Bool)
|0,_,_,_ => none
|k + 1,x0,x3,x4 => if x4 < (x0.size : Int) then (if 0 ≤ x4 then (if (bt x0 x4) = 46 then (if 0 ≤ x3 then (if x3 ≤ x4 then (if x4 ≤ (x0.size : Int) then ((bursarref03_piece.f k (x0.extract (x3 : Int).toNat (x4 : Int).toNat)).bind fun t713 => (if t713 = true then (bursarref03_Resource.l0 k x0 (wrap64 (x4 + 1)) (wrap64 (x4 + 1))) else (some false))) else (none)) else (none)) else (none)) else (bursarref03_Resource.l0 k x0 x3 (wrap64 (x4 + 1)))) else (none)) else (if (x0.size : Int) ≤ 48 then (if 0 ≤ x3 then (if x3 ≤ (x0.size : Int) then ((bursarref03_piece.f k (x0.extract (x3 : Int).toNat x0.size)).bind fun t712 => (some t712)) else (none)) else (none)) else (some false))
def bursarref03_Resource.f (k : Nat) (a0 : ByteArray) : Option (Bool) := bursarref03_Resource.l0 k a0 0 0
theorem bursarref03_Resource.mono_l : ∀ k, (∀ y0 y1 y2, LeO (bursarref03_Resource.l0 k y0 y1 y2) (bursarref03_Resource.l0 (k + 1) y0 y1 y2))
|0 => fun _ _ _ r h => by simp [bursarref03_Resource.l0] at h
|k + 1 => by
  have ih0:=bursarref03_Resource.mono_l k
  ·intro y0 y1 y2
   unfold bursarref03_Resource.l0
   repeat' first
  |(with_reducible exact ih0 _ _ _)
  |(with_reducible exact bursarref03_piece.mono _ _)
  |(with_reducible exact LeO.refl _)
  |(with_reducible exact LeO.none _)
  |(with_reducible refine LeO.ite ?_ ?_)
  |(with_reducible refine LeO.bind ?_ (fun _ => ?_))
  |exact ih0 _ _ _
  |exact bursarref03_piece.mono _ _
  |exact LeO.none _
  |refine LeO.ite ?_ ?_
  |refine LeO.bind ?_ (fun _ => ?_)
theorem bursarref03_Resource.mono : ∀ a0 k, LeO (bursarref03_Resource.f k a0) (bursarref03_Resource.f (k + 1) a0) := by
 intro a0 k
 have ih0:=bursarref03_Resource.mono_l k
 unfold bursarref03_Resource.f
 repeat' first
  |(with_reducible exact ih0 _ _ _)
  |(with_reducible exact bursarref03_piece.mono _ _)
  |(with_reducible exact LeO.refl _)
  |(with_reducible exact LeO.none _)
  |(with_reducible refine LeO.ite ?_ ?_)
  |(with_reducible refine LeO.bind ?_ (fun _ => ?_))
  |exact ih0 _ _ _
  |exact bursarref03_piece.mono _ _
  |exact LeO.none _
  |refine LeO.ite ?_ ?_
  |refine LeO.bind ?_ (fun _ => ?_)
end Go.Proofs.YtejgbdclhlolkaaGreatDoor.Q
namespace Go.Proofs.YtejgbdclhlolkaaGreatDoor.Q
open Go.RowKit Go.Proofs.YtejgbdclhlolkaaGreatDoorW.PrintWords Go.Proofs.YtejgbdclhlolkaaGreatDoorW.PrintLast Go.Proofs.YtejgbdclhlolkaaGreatDoorW.PrintMore
attribute [local go_sem] binOp_leq_ binOp_gtr_ binOp_geq_ max2_int min2_int max_two min_two max_three min_three max_four min_four   -- for this text's walks alone
set_option linter.unusedVariables false
set_option linter.unusedSimpArgs false
def bursarref03_Valid.l0 : Nat → List (S57) → Int → Option (Int)
|0,_,_ => none
|k + 1,x0,x3 => if x3 < (x0.length : Int) then (if 0 ≤ x3 then ((bursarref03_Resource.f k ((rd_T57 x0 x3).f0)).bind fun t715 => (if t715 = true then (if ((rd_T57 x0 x3).f1) < 0 then (some 31) else (if x3 > 0 then (if 0 ≤ (wrap64 (x3 - 1)) then (if (wrap64 (x3 - 1)) < (x0.length : Int) then (if ((Op.bytesLess (((rd_T57 x0 (wrap64 (x3 - 1))).f0).toList) (((rd_T57 x0 x3).f0).toList)) = true) then (bursarref03_Valid.l0 k x0 (wrap64 (x3 + 1))) else (some 31)) else (none)) else (none)) else (bursarref03_Valid.l0 k x0 (wrap64 (x3 + 1))))) else (some 31))) else (none)) else (some 0)
def bursarref03_Valid.f (k : Nat) (l0 : List (S57)) : Option (Int) := if (l0.length : Int) > 16 then (some 23) else (bursarref03_Valid.l0 k l0 0)
theorem bursarref03_Valid.mono_l : ∀ k, (∀ y0 y1, LeO (bursarref03_Valid.l0 k y0 y1) (bursarref03_Valid.l0 (k + 1) y0 y1))
|0 => fun _ _ r h => by simp [bursarref03_Valid.l0] at h
|k + 1 => by
  have ih0:=bursarref03_Valid.mono_l k
  ·intro y0 y1
   unfold bursarref03_Valid.l0
   repeat' first
  |(with_reducible exact ih0 _ _)
  |(with_reducible exact bursarref03_Resource.mono _ _)
  |(with_reducible exact LeO.refl _)
  |(with_reducible exact LeO.none _)
  |(with_reducible refine LeO.ite ?_ ?_)
  |(with_reducible refine LeO.bind ?_ (fun _ => ?_))
  |exact ih0 _ _
  |exact bursarref03_Resource.mono _ _
  |exact LeO.none _
  |refine LeO.ite ?_ ?_
  |refine LeO.bind ?_ (fun _ => ?_)
theorem bursarref03_Valid.mono : ∀ a0 k, LeO (bursarref03_Valid.f k a0) (bursarref03_Valid.f (k + 1) a0) := by
 intro a0 k
 have ih0:=bursarref03_Valid.mono_l k
 unfold bursarref03_Valid.f
 repeat' first
  |(with_reducible exact ih0 _ _)
  |(with_reducible exact bursarref03_Resource.mono _ _)
  |(with_reducible exact LeO.refl _)
  |(with_reducible exact LeO.none _)
  |(with_reducible refine LeO.ite ?_ ?_)
  |(with_reducible refine LeO.bind ?_ (fun _ => ?_))
  |exact ih0 _ _
  |exact bursarref03_Resource.mono _ _
  |exact LeO.none _
  |refine LeO.ite ?_ ?_
  |refine LeO.bind ?_ (fun _ => ?_)
end Go.Proofs.YtejgbdclhlolkaaGreatDoor.Q
namespace Go.Proofs.YtejgbdclhlolkaaGreatDoor.Q
end Go.Proofs.YtejgbdclhlolkaaGreatDoor.Q
namespace Go.Proofs.YtejgbdclhlolkaaGreatDoor.Q
open Go.RowKit Go.Proofs.YtejgbdclhlolkaaGreatDoorW.PrintWords Go.Proofs.YtejgbdclhlolkaaGreatDoorW.PrintLast
set_option linter.unusedVariables false
set_option linter.unusedSimpArgs false
theorem digit_isR (c : Int) : bursarref03_digit.f c = some (decide (48 ≤ c) && decide (c ≤ 57)) := by
  unfold bursarref03_digit.f
  by_cases h : c ≥ 48
  · rw [if_pos h, decide_eq_true (show 48 ≤ c from h), Bool.true_and]
  · rw [if_neg h, decide_eq_false (show ¬ 48 ≤ c from h), Bool.false_and]
theorem bt_byteR (s : ByteArray) (j : Nat) (h : j < s.size) (c : UInt8) : bt s (j : Int) = (c.toNat : Int) ↔ s.data.toList[j]? = some c := by
  have e : s.data.toList[j]? = some (s[j]'h) := by
    rw [Array.getElem?_toList, Array.getElem?_eq_getElem (show j < s.data.size from h)]; rfl
  rw [e]
  unfold bt
  rw [dif_pos (show ((j : Int)).toNat < s.size from h)]
  show (((s[j]'h).toNat : Nat) : Int) = _ ↔ _
  rw [Option.some.injEq, ← UInt8.toNat_inj]
  omega
end Go.Proofs.YtejgbdclhlolkaaGreatDoor.Q
namespace Go.Proofs.YtejgbdclhlolkaaGreatDoor.Q
open Go.RowKit Go.Proofs.YtejgbdclhlolkaaGreatDoorW.PrintWords Go.Proofs.YtejgbdclhlolkaaGreatDoorW.PrintLast Go.Proofs.LongLaw
set_option linter.unusedVariables false
set_option linter.unusedSimpArgs false
def vals (l : List UInt8) : List Int := l.map (fun c => (c.toNat : Int) - 48)
theorem vals_len (l : List UInt8) : (vals l).length = l.length := List.length_map ..
theorem vals_app (l r : List UInt8) : vals (l ++ r) = vals l ++ vals r := List.map_append ..
theorem vals_digits {l : List UInt8} (h : ∀ c ∈ l, isD c = true) : Digits (vals l) := by
  intro x hx
  obtain ⟨c, hc, rfl⟩ := List.mem_map.1 hx
  have := isD_val (h c hc)
  omega
theorem dval_rev : ∀ (l : List UInt8), (∀ c ∈ l, isD c = true) → dval (vals l).reverse = ((decVal 0 l : Nat) : Int) := by
  intro l
  induction hn : l.length generalizing l with
  | zero =>
    intro _
    rw [List.length_eq_zero_iff.1 hn]
    rfl
  | succ n ih =>
    intro h
    obtain ⟨q, c, rfl⟩ : ∃ q c, l = q ++ [c] := ⟨l.dropLast, l.getLast (by intro e; rw [e] at hn; simp at hn), (List.dropLast_concat_getLast _).symm⟩
    have hq := ih q (by simp at hn; omega) (fun x hx => h x (List.mem_append_left _ hx))
    have hc := isD_val (h c (by simp))
    rw [decVal_app, decVal_cons, decVal_nil, vals_app, List.reverse_append]
    show ((c.toNat : Int) - 48) + 10 * dval (vals q).reverse = _
    rw [hq]
    omega
theorem parsed_l0 (a : List Int) (hl : a.length ≤ 1048576) (b : Int) (F : List Int) (R : Int × Int)
    (hK : Ev (fun k => bursarref03_parsed.l0 k a b a.reverse (-1) F) R) : ∀ (j : Nat) (acc : List Int), j ≤ a.length → acc.length + j ≤ 1048576 → acc ++ (a.take j).reverse = a.reverse → Ev (fun k => bursarref03_parsed.l0 k a b acc ((j : Int) - 1) F) R := by
  intro j
  induction j with
  | zero =>
    intro acc hj _ he
    rw [show acc = a.reverse by rw [← he]; simp]
    exact hK
  | succ j ih =>
    intro acc hj hs he
    have hg : a.getD j 0 = a[j]'(by omega) := by rw [List.getD_eq_getElem?_getD, List.getElem?_eq_getElem (by omega)]; rfl
    have key := ih (acc ++ [a.getD j 0]) (by omega) (by simp; omega) (by rw [← he, List.take_succ_eq_append_getElem (by omega), List.reverse_append, hg, List.append_assoc]; rfl)
    refine Ev.step (fun k => ?_) key
    simp only [bursarref03_parsed.l0]
    rw [show (((j + 1 : Nat) : Int) - 1) = (j : Int) by omega, if_pos (by omega), if_pos (by omega), if_pos (by omega), if_pos (by omega), rd_nat, w64_in (i := (j : Int) - 1) (by omega) (by omega)]
theorem pow_lt10 {a b x y : Nat} (hx : x < 10 ^ a) (hy : y < 10 ^ b) : x * y < 10 ^ (a + b) := by
  rw [Nat.pow_add]
  exact Nat.mul_lt_mul_of_lt_of_le hx (Nat.le_of_lt hy) (Nat.pow_pos (by decide))
theorem parsed_ev (W D : List UInt8) (hW : ∀ c ∈ W, isD c = true) (hD : ∀ c ∈ D, isD c = true) (hl : W.length + D.length ≤ 19) (h0 : W ++ D ≠ []) (w : Nat) (hw : w ≤ 9223372036854775807) (hw0 : 0 < w) :
    Ev (fun k => bursarref03_parsed.f k (vals (W ++ D)) (D.length : Int) (longL w)) (ceilP (decVal 0 (W ++ D) * w) (10 ^ D.length)) := by
  have hWD : ∀ c ∈ W ++ D, isD c = true := fun c hc => (List.mem_append.1 hc).elim (hW c) (hD c)
  have hlen : (vals (W ++ D)).length = W.length + D.length := by rw [vals_len, List.length_append]
  have hN := (parse_ok (W ++ D) h0 hWD (by rw [List.length_append]; exact hl)).2
  have hdv := dval_rev (W ++ D) hWD
  obtain ⟨N, hNN⟩ : ∃ N, N = decVal 0 (W ++ D) := ⟨_, rfl⟩
  rw [← hNN] at hN hdv ⊢
  obtain ⟨m, hm⟩ : ∃ m, m = D.length := ⟨_, rfl⟩
  rw [← hm]
  have hm19 : m ≤ 19 := by omega
  have hp0 : 0 < 10 ^ m := Nat.pow_pos (by decide)
  have hprod : (longL (N * w)).length ≤ 38 := longL_le 38 _ (pow_lt10 (a := 19) (b := 19) hN (by omega))
  have hpl : (longL (10 ^ m)).length ≤ 20 := longL_le 20 _ (Nat.pow_lt_pow_right (by decide) (by omega))
  have hql : (longL (N * w / 10 ^ m)).length ≤ 38 := Nat.le_trans (longL_mono (Nat.div_le_self _ _)) hprod
  have hcut := cut_ev (vals (W ++ D)).reverse (fun x hx => vals_digits hWD x (List.mem_reverse.1 hx)) (by rw [List.length_reverse, hlen]; omega)
  rw [hdv, Int.toNat_natCast] at hcut
  have hcl := ceil_eq (N * w) (10 ^ m) hp0
  have hNl : (longL N).length ≤ 19 := longL_le 19 N hN
  have hwl := long19 hw
  have hv1 := value_ev (N * w / 10 ^ m) (by omega)
  obtain ⟨q, hq⟩ : ∃ q, q = N * w / 10 ^ m := ⟨_, rfl⟩
  have hq38 : q < 10 ^ 38 := by
    rw [hq]
    exact Nat.lt_of_le_of_lt (Nat.div_le_self _ _) (pow_lt10 (a := 19) (b := 19) hN (by omega))
  have hv2 := value_ev (q + 1) (by have := longL_le 39 (q + 1) (by omega); omega)
  have hpw := power_ev 10 (by decide) m (by omega)
  have hby := by_ev (N * w) (10 ^ m) hp0 (by omega) (by omega)
  have hend : Ev (fun k => bursarref03_parsed.l0 k (vals (W ++ D)) (m : Int) (vals (W ++ D)).reverse (-1) (longL w)) (ceilP (N * w) (10 ^ m)) := by
    refine Ev.step (fun k => by simp only [bursarref03_parsed.l0]; rw [if_neg (by omega)]) (Ev.bind hcut (Ev.bind (times_ev N w (by omega) (by omega)) (Ev.bind hpw (Ev.bind hby ?_))))
    rw [← hq] at hcl hv1 ⊢
    unfold ceilP
    rw [hcl]
    by_cases hr : 0 < N * w % 10 ^ m
    · have hp : ((longL (N * w % 10 ^ m)).length : Int) > 0 := by rw [longL_pos _ (by omega), List.length_cons]; omega
      rw [if_pos hr]
      refine Ev.congr (fun k => if_pos hp) (Ev.bind (long_ev 1 (by decide)) (Ev.bind (plus_ev q 1 (by have := hql; rw [← hq] at this; omega) (by have := longL_le 1 1 (by decide); omega)) (Ev.bind hv2 ?_)))
      by_cases hx : q + 1 ≤ 9223372036854775807
      · rw [if_pos hx, if_pos hx]
        exact Ev.congr (fun k => if_pos rfl) (Ev.now _)
      · rw [if_neg hx, if_neg hx]
        exact Ev.congr (fun k => if_neg Bool.false_ne_true) (Ev.now _)
    · rw [if_neg hr]
      have e0 : N * w % 10 ^ m = 0 := by omega
      rw [e0, longL_zero]
      refine Ev.congr (fun k => if_neg (show ¬ ((([] : List Int).length : Int) > 0) by decide)) (Ev.bind hv1 ?_)
      by_cases hx : q ≤ 9223372036854775807
      · rw [if_pos hx, if_pos hx]
        exact Ev.congr (fun k => if_pos rfl) (Ev.now _)
      · rw [if_neg hx, if_neg hx]
        exact Ev.congr (fun k => if_neg Bool.false_ne_true) (Ev.now _)
  have key := parsed_l0 (vals (W ++ D)) (by omega) (m : Int) (longL w) _ hend (vals (W ++ D)).length [] (Nat.le_refl _) (by simp; omega) (by rw [List.take_length, List.nil_append])
  refine Ev.congr (fun k => ?_) key
  unfold bursarref03_parsed.f
  rw [w64_in (by omega) (by omega)]
theorem at_list {text : ByteArray} {P r : List UInt8} {c : UInt8} (h : text.data.toList = P ++ c :: r) : P.length < text.size ∧ bt text (P.length : Int) = (c.toNat : Int) := by
  have hs : text.size = P.length + (r.length + 1) := by rw [Lib.size_eq, h]; simp
  refine ⟨by omega, (bt_byteR text P.length (by omega) c).2 ?_⟩
  rw [h, List.getElem?_append_right (Nat.le_refl _), Nat.sub_self]
  rfl
theorem dig_val (c : UInt8) : (decide (48 ≤ (c.toNat : Int)) && decide ((c.toNat : Int) ≤ 57)) = isD c := by
  unfold isD
  congr 1
  · exact decide_eq_decide.2 (by omega)
  · exact decide_eq_decide.2 (by omega)
theorem run_digits (text : ByteArray) (hsz : text.size ≤ 1048576) (R : Int × Int) (b : Nat) (hb : b ≤ 1) : ∀ (Ds P rest : List UInt8) (d : List Int) (beh : Nat), (∀ c ∈ Ds, isD c = true) → text.data.toList = P ++ (Ds ++ rest) → d.length ≤ P.length → beh ≤ P.length →
    Ev (fun k => bursarref03_Parse.l0 k text ((P.length + Ds.length : Nat) : Int) (b : Int) (d ++ vals Ds) ((beh + b * Ds.length : Nat) : Int)) R →
    Ev (fun k => bursarref03_Parse.l0 k text (P.length : Int) (b : Int) d (beh : Int)) R := by
  intro Ds
  induction Ds with
  | nil =>
    intro P rest d beh _ _ _ _ hK
    simpa [vals] using hK
  | cons c Ds ih =>
    intro P rest d beh hc ht hd hbe hK
    have hcD := hc c (by simp)
    have hcv := isD_val hcD
    obtain ⟨hlt, hbt⟩ := at_list (P := P) (c := c) (r := Ds ++ rest) (by rw [ht]; rfl)
    have key := ih (P ++ [c]) rest (d ++ [(c.toNat : Int) - 48]) (beh + b) (fun x hx => hc x (by simp [hx])) (by rw [ht]; simp) (by simp; omega) (by simp; omega) (by
      have e1 : (P ++ [c]).length + Ds.length = P.length + (c :: Ds).length := by simp; omega
      have e2 : (d ++ [(c.toNat : Int) - 48]) ++ vals Ds = d ++ vals (c :: Ds) := by rw [List.append_assoc]; rfl
      have e3 : beh + b + b * Ds.length = beh + b * (c :: Ds).length := by rw [List.length_cons, Nat.mul_succ]; omega
      rw [e1, e2, e3]
      exact hK)
    have e4 : (P ++ [c]).length = P.length + 1 := by simp
    rw [e4] at key
    refine Ev.step (f := fun k => bursarref03_Parse.j1 k text (P.length : Int) (b : Int) d (beh : Int) true) (fun k => ?_) (Ev.step (fun k => ?_) key)
    · simp only [bursarref03_Parse.l0]
      rw [if_pos (by omega), if_pos (by omega), hbt, digit_isR, dig_val, hcD, Option.bind_some, if_pos rfl]
    · simp only [bursarref03_Parse.j1]
      rw [if_pos trivial, if_pos (by omega), if_pos (by omega), hbt, if_neg (by omega), if_pos (by omega), w64_in (i := (P.length : Int) + 1) (by omega) (by omega), w64_in (i := (beh : Int) + (b : Int)) (by omega) (by omega), Int.emod_eq_of_lt (by omega) (by omega)]
      rfl
def Stops (S : List UInt8) : Prop := ∀ c r, S = c :: r → isD c = false ∧ c ≠ 46
theorem run_stop (text : ByteArray) (hsz : text.size ≤ 1048576) (R : Int × Int) (P S : List UInt8) (b : Int) (d : List Int) (beh : Int) (ht : text.data.toList = P ++ S) (hS : Stops S)
    (hK : Ev (fun k => bursarref03_Parse.j1 k text (P.length : Int) b d beh false) R) : Ev (fun k => bursarref03_Parse.l0 k text (P.length : Int) b d beh) R := by
  refine Ev.step (fun k => ?_) hK
  simp only [bursarref03_Parse.l0]
  cases S with
  | nil =>
    have : text.size = P.length := by rw [Lib.size_eq, ht]; simp
    rw [if_neg (by omega)]
  | cons c r =>
    obtain ⟨hlt, hbt⟩ := at_list ht
    obtain ⟨h1, h2⟩ := hS c r rfl
    have hne : ((c.toNat : Int) == 46) = false := by
      rw [beq_eq_false_iff_ne]
      intro e
      exact h2 (UInt8.toNat_inj.1 (show c.toNat = 46 by omega))
    rw [if_pos (by omega), if_pos (by omega), hbt, digit_isR, dig_val, h1, Option.bind_some, if_neg Bool.false_ne_true, hne]
theorem ext_rest (text : ByteArray) (P S : List UInt8) (ht : text.data.toList = P ++ S) : (text.extract P.length text.size).toList = S := by
  rw [ByteArray.toList_eq, Lib.extract_to_end, ht, List.drop_left' rfl]
theorem suf_loop (text : ByteArray) (hsz : text.size ≤ 1048576) (P S : List UInt8) (ht : text.data.toList = P ++ S) (d : List Int) (beh : Int) (R : Int × Int)
    (hP : ∀ j, j < 12 → (sufB j).data.toList = S → Ev (fun k => bursarref03_parsed.f k d beh (longL (wN j))) R) (h0 : (∀ j, j < 12 → (sufB j).data.toList ≠ S) → R = (0, 30)) :
    ∀ m i, i + m = 12 → (∀ j, j < i → (sufB (unitR j)).data.toList ≠ S) → Ev (fun k => bursarref03_Parse.l1 k text (P.length : Int) d beh sufL (i : Int)) R := by
  have hPl : P.length ≤ text.size := by rw [Lib.size_eq, ht]; simp
  intro m
  induction m with
  | zero =>
    intro i hi hno
    obtain rfl : i = 12 := by omega
    have hall : ∀ j, j < 12 → (sufB j).data.toList ≠ S := by
      intro j hj
      have h : ∀ j : Fin 12, ∃ i : Fin 12, unitR i.1 = j.1 := by decide
      obtain ⟨i, hi⟩ := h ⟨j, hj⟩
      have := hno i.1 i.2
      rw [hi] at this
      exact this
    rw [h0 hall]
    refine Ev.step (f := fun _ => some (0, 30)) (fun k => ?_) (Ev.now _)
    simp only [bursarref03_Parse.l1]
    rw [suf_len, if_neg (by omega)]
  | succ m ih =>
    intro i hi hno
    obtain ⟨e0, e1, hu⟩ := suf_get i (by omega)
    by_cases hm : (sufB (unitR i)).data.toList = S
    · refine Ev.step (f := fun k => (bursarref03_parsed.f k d beh (longL (wN (unitR i)))).bind fun bt => some (bt.1, bt.2)) (fun k => ?_) (Ev.bind (hP (unitR i) hu hm) (Ev.now _))
      simp only [bursarref03_Parse.l1]
      rw [suf_len, if_pos (by omega), if_pos (by omega), if_pos (by omega), if_pos (by omega), Int.toNat_natCast, e0, e1, ext_rest text P S ht, ByteArray.toList_eq, if_pos hm]
    · refine Ev.step (fun k => ?_) (ih (i + 1) (by omega) (fun j hj => by
        by_cases hji : j = i
        · rw [hji]; exact hm
        · exact hno j (by omega)))
      simp only [bursarref03_Parse.l1]
      rw [suf_len, if_pos (by omega), if_pos (by omega), if_pos (by omega), if_pos (by omega), Int.toNat_natCast, e0, ext_rest text P S ht, ByteArray.toList_eq, if_neg hm, wl i (by omega)]
theorem fin_ok (text : ByteArray) (hsz : text.size ≤ 1048576) (P S : List UInt8) (ht : text.data.toList = P ++ S) (b : Int) (d : List Int) (beh : Int) (R : Int × Int) (h1 : 1 ≤ d.length) (h19 : d.length ≤ 19)
    (hP : ∀ j, j < 12 → (sufB j).data.toList = S → Ev (fun k => bursarref03_parsed.f k d beh (longL (wN j))) R) (h0 : (∀ j, j < 12 → (sufB j).data.toList ≠ S) → R = (0, 30)) :
    Ev (fun k => bursarref03_Parse.j1 k text (P.length : Int) b d beh false) R := by
  have hloop : Ev (fun k => bursarref03_Parse.l1 k text (P.length : Int) d beh sufL 0) R := suf_loop text hsz P S ht d beh R hP h0 12 0 rfl (fun j hj => absurd hj (Nat.not_lt_zero j))
  have hb : Ev (fun k => (bursarref03_suffixes.f k).bind fun t => bursarref03_Parse.l1 k text (P.length : Int) d beh t 0) R := Ev.bind suffixes_ev hloop
  refine Ev.step (f := fun k => bursarref03_Parse.j2 k text (P.length : Int) d beh false) (fun k => ?_) (Ev.step (fun k => ?_) hb)
  · simp only [bursarref03_Parse.j1]
    rw [if_neg Bool.false_ne_true, if_neg (by omega), decide_eq_false (by omega)]
  · simp only [bursarref03_Parse.j2]
    rw [if_neg Bool.false_ne_true]
theorem fin_bad (text : ByteArray) (P : List UInt8) (b : Int) (d : List Int) (beh : Int) (h : d.length < 1 ∨ 19 < d.length) : Ev (fun k => bursarref03_Parse.j1 k text (P.length : Int) b d beh false) (0, 30) := by
  refine Ev.step (f := fun k => bursarref03_Parse.j2 k text (P.length : Int) d beh true) (fun k => ?_) (Ev.step (f := fun _ => some (0, 30)) (fun k => ?_) (Ev.now _))
  · simp only [bursarref03_Parse.j1]
    rw [if_neg Bool.false_ne_true]
    by_cases h1 : d.length < 1
    · rw [if_pos (by omega)]
    · rw [if_neg (by omega), decide_eq_true (by omega)]
  · simp only [bursarref03_Parse.j2]
    rw [if_pos trivial]
theorem run_dot (text : ByteArray) (hsz : text.size ≤ 1048576) (R : Int × Int) (W : List UInt8) (c : UInt8) (r : List UInt8) (d : List Int) (beh : Int) (hW : W ≠ []) (ht : text.data.toList = W ++ 46 :: c :: r) (hc : isD c = true)
    (hK : Ev (fun k => bursarref03_Parse.l0 k text ((W.length + 1 : Nat) : Int) 1 d beh) R) : Ev (fun k => bursarref03_Parse.l0 k text (W.length : Int) 0 d beh) R := by
  obtain ⟨hlt, hbt⟩ := at_list ht
  obtain ⟨hlt2, hbt2⟩ := at_list (text := text) (P := W ++ [46]) (c := c) (r := r) (by rw [ht]; simp)
  have e : (W ++ [(46 : UInt8)]).length = W.length + 1 := by simp
  rw [e] at hlt2 hbt2
  have hW0 : W.length ≠ 0 := fun h => hW (List.length_eq_zero_iff.1 h)
  have e46 : ((46 : UInt8).toNat : Int) = 46 := rfl
  have w0 : wrap64 (0 + 1) = 1 := by unfold wrap64; omega
  have w1 : wrap64 (((0 : Nat) : Int) + 1) = 1 := by unfold wrap64; omega
  have w2 : wrap64 (((1 : Nat) : Int) + 1) = 2 := by unfold wrap64; omega
  rw [e46] at hbt
  refine Ev.step (f := fun k => bursarref03_Parse.j1 k text (W.length : Int) 0 d beh true) (fun k => ?_) (Ev.step (fun k => ?_) hK)
  · simp only [bursarref03_Parse.l0]
    rw [if_pos (by omega), if_pos (by omega), hbt, digit_isR, Option.bind_some, if_neg (by decide)]
    rfl
  · simp only [bursarref03_Parse.j1]
    rw [if_pos trivial, if_pos (by omega), if_pos (by omega), hbt, if_pos rfl, if_neg (by omega), w0, if_neg (by decide), w64_in (i := (W.length : Int) + 1) (by omega) (by omega), if_neg (by omega), if_pos (by omega), if_pos (by omega), show ((W.length : Int) + 1) = ((W.length + 1 : Nat) : Int) by omega, hbt2, digit_isR, dig_val, hc, Option.bind_some, if_pos rfl]
theorem bad_dot (text : ByteArray) (hsz : text.size ≤ 1048576) (P r : List UInt8) (b : Nat) (d : List Int) (beh : Int) (ht : text.data.toList = P ++ 46 :: r) (h : P = [] ∨ b = 1 ∨ r = [] ∨ ∃ c q, r = c :: q ∧ isD c = false) (hb : b ≤ 1) :
    Ev (fun k => bursarref03_Parse.l0 k text (P.length : Int) (b : Int) d beh) (0, 30) := by
  obtain ⟨hlt, hbt⟩ := at_list ht
  have e46 : ((46 : UInt8).toNat : Int) = 46 := rfl
  have w0 : wrap64 (0 + 1) = 1 := by unfold wrap64; omega
  have w1 : wrap64 (((0 : Nat) : Int) + 1) = 1 := by unfold wrap64; omega
  have w2 : wrap64 (((1 : Nat) : Int) + 1) = 2 := by unfold wrap64; omega
  rw [e46] at hbt
  refine Ev.step (f := fun k => bursarref03_Parse.j1 k text (P.length : Int) (b : Int) d beh true) (fun k => ?_) (Ev.step (f := fun _ => some (0, 30)) (fun k => ?_) (Ev.now _))
  · simp only [bursarref03_Parse.l0]
    rw [if_pos (by omega), if_pos (by omega), hbt, digit_isR, Option.bind_some, if_neg (by decide)]
    rfl
  · simp only [bursarref03_Parse.j1]
    rw [if_pos trivial, if_pos (by omega), if_pos (by omega), hbt, if_pos rfl]
    by_cases h0 : P = []
    · rw [if_pos (by rw [h0]; rfl)]
    · have hP0 : P.length ≠ 0 := fun h => h0 (List.length_eq_zero_iff.1 h)
      rw [if_neg (by omega)]
      by_cases h1 : b = 1
      · rw [if_pos (by rw [h1, w2]; decide)]
      · obtain rfl : b = 0 := by omega
        rw [if_neg (by rw [w1]; decide), w64_in (i := (P.length : Int) + 1) (by omega) (by omega)]
        cases r with
        | nil =>
          have : text.size = P.length + 1 := by rw [Lib.size_eq, ht]; simp
          rw [if_pos (by omega)]
        | cons c q =>
          have hcD : isD c = false := by
            rcases h with h | h | h | ⟨c', q', h, h'⟩
            · exact absurd h h0
            · exact absurd h h1
            · cases h
            · cases h; exact h'
          obtain ⟨hlt2, hbt2⟩ := at_list (text := text) (P := P ++ [46]) (c := c) (r := q) (by rw [ht]; simp)
          have e : (P ++ [(46 : UInt8)]).length = P.length + 1 := by simp
          rw [e] at hlt2 hbt2
          rw [if_neg (by omega), if_pos (by omega), if_pos (by omega), show ((P.length : Int) + 1) = ((P.length + 1 : Nat) : Int) by omega, hbt2, digit_isR, dig_val, hcD, Option.bind_some, if_neg Bool.false_ne_true]
theorem suf_inj {i j : Nat} (hi : i < 12) (hj : j < 12) (h : (sufB i).data.toList = (sufB j).data.toList) : i = j := by
  have g : ∀ i j : Fin 12, (sufB i.1).data.toList = (sufB j.1).data.toList → i = j := by decide
  have := g ⟨i, hi⟩ ⟨j, hj⟩ h
  exact Fin.mk.inj this
theorem suf_stops {i : Nat} (hi : i < 12) : Stops (sufB i).data.toList := by
  have g : ∀ i : Fin 12, ∀ c ∈ (sufB i.1).data.toList.head?, isD c = false ∧ c ≠ 46 := by decide
  intro c r h
  exact g ⟨i, hi⟩ c (by rw [h]; rfl)
theorem run_num (text : ByteArray) (hsz : text.size ≤ 1048576) (R : Int × Int) (W D S : List UInt8) (dot : Bool) (h : IsNum W D dot) (ht : text.data.toList = numL W D dot ++ S)
    (hK : Ev (fun k => bursarref03_Parse.l0 k text ((numL W D dot).length : Int) (if dot = true then 1 else 0) (vals (W ++ D)) (D.length : Int)) R) : Ev (fun k => bursarref03_Parse.f k text) R := by
  unfold bursarref03_Parse.f
  cases dot with
  | false =>
    have hD := h.dn rfl
    subst hD
    have ht' : text.data.toList = [] ++ (W ++ S) := ht
    refine run_digits text hsz R 0 (by decide) W [] S [] 0 h.wd ht' (Nat.le_refl _) (Nat.le_refl _) ?_
    have e : (vals (W ++ [])) = [] ++ vals W := by rw [List.append_nil]; rfl
    rw [e] at hK
    simpa [numL] using hK
  | true =>
    have ht' : text.data.toList = [] ++ (W ++ (46 :: D ++ S)) := by rw [ht]; simp [numL]
    refine run_digits text hsz R 0 (by decide) W [] (46 :: D ++ S) [] 0 h.wd ht' (Nat.le_refl _) (Nat.le_refl _) ?_
    obtain ⟨c, q, rfl⟩ : ∃ c q, D = c :: q := by
      cases D with
      | nil => exact absurd rfl (h.d0 rfl)
      | cons c q => exact ⟨c, q, rfl⟩
    have ht2 : text.data.toList = W ++ 46 :: c :: (q ++ S) := by rw [ht]; simp [numL]
    have e1 : ((([] : List UInt8).length + W.length : Nat) : Int) = (W.length : Int) := by simp
    have e2 : ((0 + 0 * W.length : Nat) : Int) = ((0 : Nat) : Int) := by simp
    rw [e1, e2]
    refine run_dot text hsz R W c (q ++ S) _ _ h.w0 ht2 (h.dd c (by simp)) ?_
    have e3 : (W ++ [(46 : UInt8)]).length = W.length + 1 := by simp
    have hW1 : (vals W).length ≤ W.length + 1 := by rw [vals_len]; omega
    have := run_digits text hsz R 1 (by decide) (c :: q) (W ++ [46]) S ([] ++ vals W) 0 h.dd (by rw [ht2]; simp) (by rw [e3]; exact hW1) (Nat.zero_le _) (by
      have e4 : ((W ++ [(46 : UInt8)]).length + (c :: q).length) = (numL W (c :: q) true).length := by simp [numL]; omega
      have e5 : ([] ++ vals W) ++ vals (c :: q) = vals (W ++ c :: q) := by rw [vals_app]; rfl
      have e6 : 0 + 1 * (c :: q).length = (c :: q).length := by omega
      rw [e4, e5, e6]
      exact hK)
    rw [e3] at this
    exact this
theorem ref_fwd (text : ByteArray) (hsz : text.size ≤ 1048576) (W D : List UInt8) (dot : Bool) (h : IsNum W D dot) (i : Nat) (hi : i < 12) (hl : W.length + D.length ≤ 19) (ht : text.data.toList = numL W D dot ++ (sufB i).data.toList) :
    Ev (fun k => bursarref03_Parse.f k text) (ceilP (decVal 0 (W ++ D) * wN i) (10 ^ D.length)) := by
  have hW0 : W.length ≠ 0 := fun e => h.w0 (List.length_eq_zero_iff.1 e)
  have hne : W ++ D ≠ [] := fun e => h.w0 (List.append_eq_nil_iff.1 e).1
  have hlen : (vals (W ++ D)).length = W.length + D.length := by rw [vals_len, List.length_append]
  refine run_num text hsz _ W D _ dot h ht (run_stop text hsz _ _ _ _ _ _ ht (suf_stops hi) (fin_ok text hsz _ _ ht _ _ _ _ (by omega) (by omega) (fun j hj hjS => ?_) (fun hno => absurd rfl (hno i hi))))
  obtain rfl := suf_inj hj hi hjS
  exact parsed_ev W D h.wd h.dd hl hne (wN j) (wN_le j hj) (wN_pos j hj)
theorem span_digits : ∀ l : List UInt8, ∃ A r, l = A ++ r ∧ (∀ c ∈ A, isD c = true) ∧ ∀ c q, r = c :: q → isD c = false
  | [] => ⟨[], [], rfl, fun c hc => (by simp at hc), fun c q h => (by cases h)⟩
  | c :: l => by
    cases hc : isD c with
    | false => exact ⟨[], c :: l, rfl, fun x hx => (by simp at hx), fun x q h => by cases h; exact hc⟩
    | true =>
      obtain ⟨A, r, e, h1, h2⟩ := span_digits l
      refine ⟨c :: A, r, by rw [e]; rfl, fun x hx => ?_, h2⟩
      rcases List.mem_cons.1 hx with rfl | hx
      · exact hc
      · exact h1 x hx
theorem ref_all (text : ByteArray) (hsz : text.size ≤ 1048576) : Ev (fun k => bursarref03_Parse.f k text) (0, 30) ∨ ∃ (W D : List UInt8) (dot : Bool) (i : Nat), i < 12 ∧ IsNum W D dot ∧ W.length + D.length ≤ 19 ∧ text.data.toList = numL W D dot ++ (sufB i).data.toList := by
  obtain ⟨W, r, e, hW, hr⟩ := span_digits text.data.toList
  -- behind a number that is whole: too many digits, a suffix, or none
  have finish : ∀ (D S : List UInt8) (dot : Bool), IsNum W D dot → text.data.toList = numL W D dot ++ S → Stops S → Ev (fun k => bursarref03_Parse.f k text) (0, 30) ∨ ∃ (W D : List UInt8) (dot : Bool) (i : Nat), i < 12 ∧ IsNum W D dot ∧ W.length + D.length ≤ 19 ∧ text.data.toList = numL W D dot ++ (sufB i).data.toList := by
    intro D S dot h ht hS
    have hlen : (vals (W ++ D)).length = W.length + D.length := by rw [vals_len, List.length_append]
    have hW0 : W.length ≠ 0 := fun e => h.w0 (List.length_eq_zero_iff.1 e)
    by_cases hl : W.length + D.length ≤ 19
    · by_cases hs : ∃ i, i < 12 ∧ (sufB i).data.toList = S
      · obtain ⟨i, hi, hiS⟩ := hs
        exact .inr ⟨W, D, dot, i, hi, h, hl, by rw [ht, hiS]⟩
      · exact .inl (run_num text hsz _ W D S dot h ht (run_stop text hsz _ _ S _ _ _ ht hS (fin_ok text hsz _ S ht _ _ _ _ (by omega) (by omega) (fun j hj hjS => absurd ⟨j, hj, hjS⟩ hs) (fun _ => rfl))))
    · exact .inl (run_num text hsz _ W D S dot h ht (run_stop text hsz _ _ S _ _ _ ht hS (fin_bad text _ _ _ _ (by omega))))
  have start : ∀ R, Ev (fun k => bursarref03_Parse.l0 k text (W.length : Int) ((0 : Nat) : Int) (vals W) ((0 : Nat) : Int)) R → Ev (fun k => bursarref03_Parse.f k text) R := by
    intro R hK
    have ht' : text.data.toList = [] ++ (W ++ r) := e
    refine run_digits text hsz R 0 (by decide) W [] r [] 0 hW ht' (Nat.le_refl _) (Nat.le_refl _) ?_
    simpa using hK
  by_cases hw : W = []
  · subst hw
    refine .inl (start _ ?_)
    cases r with
    | nil => exact run_stop text hsz _ [] [] _ _ _ e (fun c q h => by cases h) (fin_bad text [] _ _ _ (.inl (by decide)))
    | cons c q =>
      by_cases hc : c = 46
      · subst hc
        exact bad_dot text hsz [] q 0 _ _ e (.inl rfl) (by decide)
      · exact run_stop text hsz _ [] (c :: q) _ _ _ e (fun x y h => by cases h; exact ⟨hr c q rfl, hc⟩) (fin_bad text [] _ _ _ (.inl (by decide)))
  · cases r with
    | nil => exact finish [] [] false ⟨hw, hW, fun h => (by cases h), fun b hb => (by simp at hb), fun _ => rfl⟩ e (fun c q h => by cases h)
    | cons c q =>
      by_cases hc : c = 46
      · subst hc
        cases q with
        | nil => exact .inl (start _ (bad_dot text hsz W [] 0 _ _ e (.inr (.inr (.inl rfl))) (by decide)))
        | cons c2 q2 =>
          cases hc2 : isD c2 with
          | false => exact .inl (start _ (bad_dot text hsz W (c2 :: q2) 0 _ _ e (.inr (.inr (.inr ⟨c2, q2, rfl, hc2⟩))) (by decide)))
          | true =>
            obtain ⟨D, S, e2, hD, hS⟩ := span_digits (c2 :: q2)
            have hD0 : D ≠ [] := by
              rintro rfl
              have := hS c2 q2 e2.symm
              rw [hc2] at this; cases this
            have hnum : IsNum W D true := ⟨hw, hW, fun _ => hD0, hD, fun h => (by cases h)⟩
            have ht : text.data.toList = numL W D true ++ S := by rw [e, e2]; simp [numL]
            cases S with
            | nil => exact finish D [] true hnum ht (fun c q h => by cases h)
            | cons s S2 =>
              by_cases hs : s = 46
              · subst hs
                exact .inl (run_num text hsz _ W D (46 :: S2) true hnum ht (bad_dot text hsz _ S2 1 _ _ ht (.inr (.inl rfl)) (by decide)))
              · exact finish D (s :: S2) true hnum ht (fun x y h => by cases h; exact ⟨hS s S2 rfl, hs⟩)
      · exact finish [] (c :: q) false ⟨hw, hW, fun h => (by cases h), fun b hb => (by simp at hb), fun _ => rfl⟩ e (fun x y h => by cases h; exact ⟨hr c q rfl, hc⟩)
end Go.Proofs.YtejgbdclhlolkaaGreatDoor.Q
namespace Go.Proofs.YtejgbdclhlolkaaGreatDoor.Pure
open Go.RowKit Go.Proofs.YtejgbdclhlolkaaGreatDoorW.PrintWords Go.Proofs.YtejgbdclhlolkaaGreatDoorW.PrintLast Go.Proofs.YtejgbdclhlolkaaGreatDoor.Q
set_option linter.unusedVariables false
set_option linter.unusedSimpArgs false
theorem parses_same {text : ByteArray} {R : Int × Int} (h1 : Ev (fun k => quant_Parse.f k text) R) (h2 : Ev (fun k => bursarref03_Parse.f k text) R) : ∃ k, bursarlaw03_QuantParses.f k text = some true := by
  refine Ev.rounds ?_
  refine Ev.bind known_ev (Ev.congr (fun k => if_pos rfl) (Ev.bind h1 (Ev.bind h2 (Ev.congr (fun k => if_pos rfl) (Ev.congr (f := fun _ => some true) (fun k => ?_) (Ev.now _))))))
  rw [beq_self_eq_true]
theorem QuantParses (text : ByteArray) (b0 : text.size ≤ 1048576) : ∃ k, bursarlaw03_QuantParses.f k text = some true := by
  by_cases hd : ∃ (W D : List UInt8) (dot : Bool) (i : Nat), i < 12 ∧ IsNum W D dot ∧ W.length + D.length ≤ 19 ∧ text.data.toList = numL W D dot ++ (sufB i).data.toList
  · obtain ⟨W, D, dot, i, hi, h, hl, ht⟩ := hd
    have h1 := parse_fwd text W D (sufB i).data.toList dot h i hi (by rw [sufB_get i hi]) ht hl (by omega)
    rw [wN_get i hi] at h1
    exact parses_same h1 (ref_fwd text b0 W D dot h i hi hl ht)
  · have h2 := (ref_all text b0).resolve_right hd
    have h1 := (parse_all text (by omega)).resolve_right (fun ⟨W, D, dot, i, hi, h, hl, ht⟩ => hd ⟨W, D, dot, i, hi, h, hl, ht⟩)
    exact parses_same h1 h2
end Go.Proofs.YtejgbdclhlolkaaGreatDoor.Pure
namespace Go.Proofs.YtejgbdclhlolkaaGreatDoor.Q
open Go.RowKit Go.Lib Go.ChangeShapes Go.Proofs.YtejgbdclhlolkaaGreatDoorW.PrintWords Go.Proofs.YtejgbdclhlolkaaGreatDoorW.PrintLast
set_option linter.unusedVariables false
set_option linter.unusedSimpArgs false
theorem laid_one {P : Program} {w : World} {l : List (String × DataW Unit)} {n : String} {d : DataW Unit} (h : laidMetH P l w) (hl : (l.filter fun x => x.1 == n) = [(n, d)]) (hd : d.handleName? = none) : laidMet P [(n, d)] w := by
  have h1 := h.filter (fun x => x.1 == n)
  rw [hl] at h1
  have h2 := (laidMetH_iff.1 h1).1
  have e : ([(n, d)] : List (String × DataW Unit)).filter (fun x => x.2.handleName?.isNone) = [(n, d)] := by simp [List.filter_cons, hd]
  rw [e] at h2
  exact h2
theorem struct_si {H : Type} {enc : TypeId × Value → H} {P : Program} {w : World} {base : Nat} {sp : Nat → Bool} {held : Bool} {fuel : Nat} {t : TypeId} {f0 f1 : Field} {k : IntKind} {cs : List Value} {l : List UInt8} {v : Int} {p : List MemPlace}
    (ht : P.underlying t = some (.struct #[f0, f1])) (h0 : P.underlying f0.type = some .string) (h1 : P.underlying f1.type = some (.int k)) (o0 : f0.offset = 0) (o1 : f1.offset = 1) (c0 : P.cellsOf f0.type = 1) (c1 : P.cellsOf f1.type = 1) (c : P.cellsOf t = 2)
    (h : DataW.trod enc P w base sp held fuel t cs = some (.agg [.lit (.string l), .lit (.int k v)], p)) : cs = [.string ⟨l.toArray⟩, .int k v] := by
  obtain ⟨y0, y1, n, hx, hl, e0, e1⟩ := trod_struct2 ht h
  rw [o0, c0] at e0
  rw [o1, c1] at e1
  rw [c] at hl
  injection hx with hx _
  injection hx with hx
  injection hx with hx0 hx
  injection hx with hx1 _
  match cs, hl with
  | [a, b], _ =>
    simp only [List.drop_zero, List.take_succ_cons, List.take_zero, List.drop_succ_cons] at e0 e1
    obtain ⟨s, hs, rfl, _⟩ := DataW.trod_string h0 e0
    obtain ⟨z, hz, rfl, _⟩ := DataW.trod_int h1 e1
    injection hs with hs _
    injection hz with hz _
    subst hs hz
    simp only [DataW.lit.injEq, Lit.string.injEq, Lit.int.injEq, true_and] at hx0 hx1
    subst hx0 hx1
    rfl
theorem arr_at {H : Type} {enc : TypeId × Value → H} {P : Program} {w : World} {base : Nat} {sp : Nat → Bool} {held : Bool} {fuel : Nat} {t e : TypeId} {n : Nat} {cs : List Value} {ds : List (DataW H)} {p : List MemPlace}
    (ht : P.underlying t = some (.array n e)) (h : DataW.trod enc P w base sp held fuel t cs = some (.agg ds, p)) (i : Nat) (hi : i < n) : ∃ f d q, ds[i]? = some d ∧ DataW.trod enc P w base sp held f e ((cs.drop (i * P.cellsOf e)).take (P.cellsOf e)) = some (d, q) := by
  cases fuel with
  | zero => simp [DataW.trod] at h
  | succ fuel =>
    simp only [DataW.trod, ht] at h
    split at h
    · obtain ⟨xs, hm, hx⟩ := Option.map_eq_some_iff.1 h
      injection hx with hx _
      injection hx with hx
      obtain ⟨b, hb, hf⟩ := mapM_at hm i i (by simp [hi])
      exact ⟨fuel, b.1, b.2, by rw [← hx]; simp [hb], hf⟩
    · cases h
theorem units_laid {w : World} (h : laidMet Tryz.prog [("bursar/quant.units", Rows.laid_bursar_quant_units)] w) : ∀ j x, unitCells[j]? = some x → w.cell? ⟨1, j, none⟩ = some x := by
  obtain ⟨ps, ⟨g', t', cs, fuel, p, q, hg', ht', hvar, hd, _, _⟩, _⟩ := h
  obtain rfl : g' = 1 := Option.some.inj (hg'.symm.trans (by kernel_rfl))
  obtain rfl : t' = 67 := Option.some.inj (ht'.symm.trans (by kernel_rfl))
  intro j x hx
  rw [World.var?_cell hg' hvar j]
  have hj : j < 24 := (List.getElem?_eq_some_iff.1 hx).1
  obtain ⟨f, d, q', hd1, hd2⟩ := arr_at Tryz.underlying67 hd (j / 2) (by omega)
  rw [show Tryz.prog.cellsOf 66 = 2 by kernel_rfl] at hd2
  have key : ∀ (l : List UInt8) (v : Int), d = .agg [.lit (.string l), .lit (.int .u64 v)] → ((cs.toList.drop (j / 2 * 2)).take 2) = [.string ⟨l.toArray⟩, .int .u64 v] := fun l v e => by
    subst e
    exact struct_si Tryz.underlying66 Tryz.underlying9 Tryz.underlying36 rfl rfl (by kernel_rfl) (by kernel_rfl) (by kernel_rfl) hd2
  have get : ∀ (a b : Value), ((cs.toList.drop (j / 2 * 2)).take 2) = [a, b] → cs[j]? = if j % 2 = 0 then some a else some b := fun a b e => by
    have e1 : ((cs.toList.drop (j / 2 * 2)).take 2)[j % 2]? = [a, b][j % 2]? := by rw [e]
    rw [List.getElem?_take_of_lt (by omega), List.getElem?_drop, show j / 2 * 2 + j % 2 = j by omega, Array.getElem?_toList] at e1
    rw [e1]
    obtain h | h : j % 2 = 0 ∨ j % 2 = 1 := by omega
    · rw [h]; rfl
    · rw [h]; rfl
  obtain rfl | rfl | rfl | rfl | rfl | rfl | rfl | rfl | rfl | rfl | rfl | rfl | rfl | rfl | rfl | rfl | rfl | rfl | rfl | rfl | rfl | rfl | rfl | rfl : j = 0 ∨ j = 1 ∨ j = 2 ∨ j = 3 ∨ j = 4 ∨ j = 5 ∨ j = 6 ∨ j = 7 ∨ j = 8 ∨ j = 9 ∨ j = 10 ∨ j = 11 ∨ j = 12 ∨ j = 13 ∨ j = 14 ∨ j = 15 ∨ j = 16 ∨ j = 17 ∨ j = 18 ∨ j = 19 ∨ j = 20 ∨ j = 21 ∨ j = 22 ∨ j = 23 := by omega
  all_goals
    rw [get _ _ (key _ _ (Option.some.inj hd1).symm)]
    exact hx
theorem tab_laid {w : World} (h : laidMet Tryz.prog [("internal/strconv.uint64pow10", Rows.laid_internal_strconv_uint64pow10)] w) : Lib.TabIs Tryz.prog w "internal/strconv.uint64pow10" .u64 Lib.pow10Tab :=
  Lib.tabIs_of_head (g := 4) (t := 130) (e := 36) (n := 20) (by kernel_rfl) (by kernel_rfl) Tryz.underlying130 Tryz.underlying36 (by kernel_rfl) (by kernel_rfl) h
theorem glob_of {W : World} (hsh : W.ShapedOpen Tryz.prog) (h : laidMetH Tryz.prog Rows.quantSumsRow.laid W) : Glob W :=
  ⟨Tryz.laysM146.s1_3 W hsh, tab_laid (laid_one h rfl rfl), units_laid (laid_one h rfl rfl)⟩
end Go.Proofs.YtejgbdclhlolkaaGreatDoor.Q
namespace Go.Proofs.YtejgbdclhlolkaaGreatDoor.quantParses
open Go.ChangeShapes Go.WideShapes Go.ChangeAt Go.RowKit
open Go.ChangeMaps (open_string shut_string)
set_option linter.unusedVariables false
set_option linter.unusedSimpArgs false
theorem own : ownKnob Tryz.prog.godebug = none := by kernel_rfl
set_option maxRecDepth 100000 in
theorem contract (H : Type) (enc : TypeId × Value → H) (W : World) (base : Nat) (args : Array Value) (ds gs : List (DataW H)) (before : List MemPlace)
    (hval0 : ∀ (j : Nat) t v, Tryz.f3.params[j]? = some t → args[j]? = some v → Value.okWide Tryz.prog W .any base t v)
    (hW : DataW.Whole enc Tryz.prog Tryz.f3.params.toList Rows.quantParsesSpec.vars false W args.toList ds gs before)
    (hk : Rows.uptoSmall H (ds ++ gs) = true)
    (hsh : W.ShapedOpen Tryz.prog)
    (hl : laidMetH Tryz.prog Rows.quantParsesUptoRow.laid W)
    : Calls Tryz.prog 3 args W fun e W' => ∃ v, e = .returned v ∧ Rows.quantParsesSpec.post enc Tryz.prog Tryz.f3 false true false false W args v W' := by
  have hval : ∀ (j : Nat) t v, Tryz.f3.params[j]? = some t → args[j]? = some v → Value.okWide Tryz.prog W .any base t v := hval0
  have hW' := hW
  obtain ⟨p, q, hA0, hV, rfl, hfz, hnd⟩ := hW
  have hA : DataW.TrodAll enc Tryz.prog W 0 (fun _ => true) true Tryz.f3.params.toList args.toList ds p := hA0
  rw [Tryz.params3] at hA hval
  obtain ⟨v0, vs0, d0, ds0, p0, q0, hargs, rfl, rfl, h0, r0⟩ := trodAll_cons hA
  obtain ⟨rfl, rfl, rfl⟩ := trodAll_nil r0
  obtain rfl : args = #[v0] := by cases args; simp_all
  obtain ⟨rfl, rfl⟩ := trodVars_none hV
  obtain ⟨a0, rfl, rfl, rfl, y0⟩ := open_string Tryz.underlying9 (hval 0 9 v0 rfl rfl) h0
  have hb := of_decide_eq_true hk
  simp only [List.append_nil, List.cons_append, List.nil_append, Rows.uptoBulkAll, Rows.uptoBulk, Array.length_toList] at hb
  have b0 : a0.size ≤ 1048576 := by have : a0.data.size = a0.size := rfl; omega
  obtain ⟨k, hp⟩ := Pure.QuantParses a0 b0
  refine (Q.bursarlaw03_QuantParses.calls k a0 true W  hp (Q.glob_of hsh hl)).mono fun e W' ⟨he, bel⟩ => ?_
  subst he
  exact ⟨_, rfl, _, _, _, [], _, [], hW', trodAll_mk1 (shut_bool Tryz.underlying4 _), (trodAll_cons_mk (shut_string Tryz.underlying9 y0) trodAll_mk0), rfl, bel.frame _, fun h => by cases h⟩
noncomputable def tab1 : Obj → Obj
  | .cells _ t frozen => .cells (Go.Pinned.utf8FirstZ.map fun (n : Nat) => Value.int .u8 (n : Int)).toArray t frozen
  | o => o
noncomputable def laidWorld (os : Os) : World :=
  { World.doorLaid Tryz.prog 94 os with heap := (World.doorLaid Tryz.prog 94 os).heap.modify 10 tab1 }
theorem laid_met (os : Os) : laidMet Tryz.prog Rows.quantParsesRow.laid ((laidWorld os).forCall (fun _ _ => 0) ⟨#[], #[.string ByteArray.empty], []⟩).memory :=
  laidMet_of_run' 8 (by kernel_rfl) (by kernel_rfl)
theorem reads (os : Os) {H : Type} (enc : TypeId × Value → H) : ∃ places, DataW.whole enc Tryz.prog ((laidWorld os).forCall (fun _ _ => 0) ⟨#[], #[.string ByteArray.empty], []⟩).memory Tryz.f3.params.toList Rows.quantParsesSpec.vars false (#[.string ByteArray.empty] : Array Value).toList 8 = some ([.lit (.string [])], [], places) :=
  ⟨[], by kernel_rfl⟩
set_option maxRecDepth 100000 in
theorem lifted (os : Os) (started : os.Started) (H : Type) (enc : TypeId × Value → H) (F : Stop.Interp) :
    ReturnsInHanded {} Tryz.checked os 3 .any ((Rows.OpenSpec.upto Rows.quantParsesSpec).preRow enc Tryz.prog Tryz.f3 Rows.quantParsesUptoRow.domain false Rows.quantParsesUptoRow.laid) (((Rows.OpenSpec.upto Rows.quantParsesSpec).at F).post enc Tryz.prog Tryz.f3 false true false false) := by
  obtain ⟨places, hx⟩ := reads os enc
  refine returnsInHanded_of_row (C := Tryz.checked) (s := Rows.OpenSpec.upto Rows.quantParsesSpec) own started (by kernel_rfl) Tryz.func3
    (witness_row_at (enc := enc) (C := Tryz.checked) false (laidWorld os) #[.string ByteArray.empty] rfl (by kernel_rfl) (by kernel_rfl) (by kernel_rfl)
      (OpenSpec.preRow_of_cond 8 hx (by kernel_rfl) (fun k hk => by cases hk; kernel_rfl) (by kernel_rfl) (laid_met os))) ?_
  intro W base args ds gs before hval hW _ hcond hsz hl hsh _
  exact contract H enc W base args ds gs before hval hW (hcond _ rfl) hsh hl
theorem said : Rows.QuantParsesUptoSaid :=
  OpenClaim.holds_of_cond 3 Tryz.f3 rfl rfl rfl rfl rfl rfl rfl ⟨rfl, rfl, rfl, rfl, rfl⟩ rfl rfl rfl rfl rfl (by kernel_rfl) Tryz.func3 (by kernel_rfl)
    (of_decide_eq_true (by kernel_rfl)) (by unfold Func.isWrapper; first | (rw [if_pos (by decide +kernel)]; kernel_rfl) | (rw [if_neg (by decide +kernel)]; exact ⟨rfl, rfl⟩))
    (fun os started H enc _ F => by rw [OpenClaim.pre_eq_preRow]; exact lifted os started H enc F)
theorem plain (f : FuncId) (fn : Func) (hf : Tryz.pinned.checked.prog.funcNamed "bursar/bursarlaw03.QuantParses" = some f) (hfn : Tryz.pinned.checked.prog.funcs[f]? = some fn) :
    true = Tryz.pinned.checked.prog.looks [] ∧ ∀ (j : Nat) t, fn.params[j]? = some t → Tryz.pinned.checked.prog.wantsStandIn t = false := by
  obtain rfl : f = 3 := Option.some.inj ((show Tryz.prog.funcNamed "bursar/bursarlaw03.QuantParses" = some 3 by kernel_rfl).symm.trans hf) |>.symm
  obtain rfl : fn = Tryz.f3 := (Option.some.inj (Tryz.func3.symm.trans hfn)).symm
  refine ⟨by kernel_rfl, fun j t ht => ?_⟩
  rw [Tryz.params3] at ht
  have hall : ∀ x ∈ [9], Tryz.prog.wantsStandIn x = false := by
    intro x hx; simp only [List.mem_cons, List.mem_nil_iff, or_false] at hx; rcases hx with rfl <;> kernel_rfl
  exact hall t (by simpa using Array.mem_of_getElem? ht)
theorem card : Rows.QuantParsesUptoCardSaid :=
  Claim7.holds_tied_plain_at .later [] _ _ _ _ said (fun _ h => by cases h) (by kernel_rfl) (fun _ h => by cases h) quantParsesUpto_row_tie rfl ⟨rfl, rfl⟩ (by kernel_rfl) rfl plain (by kernel_rfl)
end Go.Proofs.YtejgbdclhlolkaaGreatDoor.quantParses
namespace Go.Proofs.YtejgbdclhlolkaaGreatDoor
theorem quantParses_holds : Rows.QuantParsesUptoCardSaid := quantParses.card
end Go.Proofs.YtejgbdclhlolkaaGreatDoor
