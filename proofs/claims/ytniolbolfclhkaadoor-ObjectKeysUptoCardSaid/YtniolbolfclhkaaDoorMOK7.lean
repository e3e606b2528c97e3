/- What the statement ObjectKeysUptoCardSaid rests on, part 7 of 7: walks and plain laws; what of the printer's words it leans on. -/
import Derived.Test.YtniolbolfclhkaaDoorRows
import Derived.Test.YtniolbolfclhkaaDoorCards
import Derived.Test.YtniolbolfclhkaaDoorTie
import Derived.Test.YtniolbolfclhkaaDoorMOK3
import Derived.Test.YtniolbolfclhkaaDoorMOK5
import Derived.Test.YtniolbolfclhkaaDoorMOK6
import Derived.LaidSub
import Derived.Lib.LaidTab
import Derived.ChangeSame
import Derived.WalkKit
import Derived.ProofKit
import Derived.OpenShut
import Derived.ShutString
import Derived.ChangeOld
import Derived.Below
import Derived.SizedLaws
import Derived.Deep.DeepHandedRow
import Derived.LaidMore
namespace Go.Proofs.YtniolbolfclhkaaDoor.Q
open Go.RowKit Go.Proofs.YtniolbolfclhkaaDoorW.PrintWords Go.Proofs.YtniolbolfclhkaaDoorW.PrintLast Go.Proofs.YtniolbolfclhkaaDoorW.PrintMore
attribute [local go_sem] max2_int min2_int max_two min_two max_three min_three max_four min_four   -- for this text's walks alone
set_option linter.unusedVariables false
set_option linter.unusedSimpArgs false
mutual
def key_Split.l0 : Nat → ByteArray → List ByteArray → List Int → Int → Option (List ByteArray × Int)
|0,_,_,_,_ => none
|k + 1,x0,x4,x5,x6 => if x6 < (x0.size : Int) then (if 0 ≤ x6 then (if (bt x0 x6) = 0 then (if (wrap64 (x6 + 1)) < (x0.size : Int) then (if 0 ≤ (wrap64 (x6 + 1)) then (key_Split.j1 k x0 x4 x5 (wrap64 (x6 + 1)) ((bt x0 (wrap64 (x6 + 1))) == 255)) else (none)) else (key_Split.j1 k x0 x4 x5 (wrap64 (x6 + 1)) false)) else (if x5.length < 140737488355328 then (key_Split.l0 k x0 x4 (x5 ++ [bt x0 x6]) (wrap64 (x6 + 1))) else (none))) else (none)) else (if (x5.length : Int) > 0 then (some (([] : List ByteArray),2)) else (if (x4.length : Int) = 0 then (some (([] : List ByteArray),2)) else (if (x4.length : Int) > 8 then (some (([] : List ByteArray),2)) else (if (x0.size : Int) > 120 then (some (([] : List ByteArray),2)) else (some (x4,0))))))
def key_Split.j1 : Nat → ByteArray → List ByteArray → List Int → Int → Bool → Option (List ByteArray × Int)
|0,_,_,_,_,_ => none
|k + 1,x0,x4,x5,x6,x25 => if x25 = true then (if x5.length < 140737488355328 then (key_Split.l0 k x0 x4 (x5 ++ [0]) (wrap64 (x6 + 1))) else (none)) else (if x6 < (x0.size : Int) then (if 0 ≤ x6 then (if (bt x0 x6) = 1 then (if x4.length < 8796093022208 then (key_Split.l0 k x0 (x4 ++ [strOfNums x5]) ([] : List Int) (wrap64 (x6 + 1))) else (none)) else (some (([] : List ByteArray),2))) else (none)) else (some (([] : List ByteArray),2)))
end
def key_Split.f (k : Nat) (a0 : ByteArray) : Option (List ByteArray × Int) := key_Split.l0 k a0 ([] : List ByteArray) ([] : List Int) 0
theorem key_Split.mono_l : ∀ k, (∀ y0 y1 y2 y3, LeO (key_Split.l0 k y0 y1 y2 y3) (key_Split.l0 (k + 1) y0 y1 y2 y3)) ∧ (∀ y0 y1 y2 y3 y4, LeO (key_Split.j1 k y0 y1 y2 y3 y4) (key_Split.j1 (k + 1) y0 y1 y2 y3 y4))
|0 => ⟨fun _ _ _ _ r h => by simp [key_Split.l0] at h,fun _ _ _ _ _ r h => by simp [key_Split.j1] at h⟩
|k + 1 => by
  obtain ⟨ih0,ih1⟩:=key_Split.mono_l k
  refine ⟨?_,?_⟩
  ·intro y0 y1 y2 y3
   unfold key_Split.l0
   repeat' first
  |(with_reducible exact ih0 _ _ _ _)
  |(with_reducible exact ih1 _ _ _ _ _)
  |(with_reducible exact LeO.refl _)
  |(with_reducible exact LeO.none _)
  |(with_reducible refine LeO.ite ?_ ?_)
  |(with_reducible refine LeO.bind ?_ (fun _ => ?_))
  |exact ih0 _ _ _ _
  |exact ih1 _ _ _ _ _
  |exact LeO.none _
  |refine LeO.ite ?_ ?_
  |refine LeO.bind ?_ (fun _ => ?_)
  ·intro y0 y1 y2 y3 y4
   unfold key_Split.j1
   repeat' first
  |(with_reducible exact ih0 _ _ _ _)
  |(with_reducible exact ih1 _ _ _ _ _)
  |(with_reducible exact LeO.refl _)
  |(with_reducible exact LeO.none _)
  |(with_reducible refine LeO.ite ?_ ?_)
  |(with_reducible refine LeO.bind ?_ (fun _ => ?_))
  |exact ih0 _ _ _ _
  |exact ih1 _ _ _ _ _
  |exact LeO.none _
  |refine LeO.ite ?_ ?_
  |refine LeO.bind ?_ (fun _ => ?_)
theorem key_Split.mono : ∀ a0 k, LeO (key_Split.f k a0) (key_Split.f (k + 1) a0) := by
 intro a0 k
 obtain ⟨ih0,ih1⟩:=key_Split.mono_l k
 unfold key_Split.f
 repeat' first
  |(with_reducible exact ih0 _ _ _ _)
  |(with_reducible exact ih1 _ _ _ _ _)
  |(with_reducible exact LeO.refl _)
  |(with_reducible exact LeO.none _)
  |(with_reducible refine LeO.ite ?_ ?_)
  |(with_reducible refine LeO.bind ?_ (fun _ => ?_))
  |exact ih0 _ _ _ _
  |exact ih1 _ _ _ _ _
  |exact LeO.none _
  |refine LeO.ite ?_ ?_
  |refine LeO.bind ?_ (fun _ => ?_)
set_option maxHeartbeats 8000000 in
set_option maxRecDepth 100000 in
theorem key_Split.calls (k : Nat) (a0 : ByteArray) (r1 : List ByteArray) (r2 : Int) (w : World) (h : key_Split.f k a0 = some (r1, r2)) :
  Calls Tryd.prog 34 #[.string a0] w fun e w' => ∃ v0_ : Value,e = .returned (.tuple #[v0_,.int .i64 r2]) ∧ Kd.R Kd.string 9 w' w.heap.size (fun _ => True) v0_ r1 ∧ Below w.heap.size w w':=by
 have HB:=Aside0.mk (Below.refl w.heap.size w)
 have H : (key_Split.l0 k a0 ([] : List ByteArray) ([] : List Int) 0) = some (r1,r2):=h
 clear h
 have H':=Aside0.mk H
 clear H
 go_enter Tryd.func34,Tryd.ntmps34
 go_wp2
 go_loopg [4,5,6] k (fun kq v4 v5 v6 w' => ∃ (x4_1 : List ByteArray) (x5_1 : List Int) (x6_1 : Int),v6 = .int .i64 x6_1 ∧ Aside0 (key_Split.l0 kq a0 x4_1 x5_1 x6_1 = some (r1,r2)) ∧ Aside0 (kq ≤ k) ∧ Aside0 (Kd.R Kd.string 9 w' w.heap.size (fun _ => True) v4 x4_1) ∧ Aside0 (Kd.R (Kd.int .u8) 5 w' w.heap.size (fun _ => True) v5 x5_1) ∧ Aside0 (Below w.heap.size w w'))
 case atStart => exact ⟨(([] : List ByteArray)),(([] : List Int)),(0),(by first|rfl|(simp;done)|(simp [*];done)|(simp;rw [Bool.eq_iff_iff];simp;done)|(rw [Bool.eq_iff_iff];simp;done)),H',⟨Nat.le_refl _⟩,⟨by first|exact Kd.R_nil _ _ _ _ _|exact Kd.N_nil _ _ _ _ _|exact Kd.V_nil _ _ _ _ _|exact Kd.Q_nil _ _ _ _ _|exact Kd.S_nil _ _ _ _ _⟩,⟨by first|exact Kd.R_nil _ _ _ _ _|exact Kd.N_nil _ _ _ _ _|exact Kd.V_nil _ _ _ _ _|exact Kd.Q_nil _ _ _ _ _|exact Kd.S_nil _ _ _ _ _⟩,⟨by repeat (first|(with_reducible first|exact HB.out|apply below_alloc|apply pw_below_drewN|apply below_drew1)|exact HB.out)⟩⟩
 case round =>
  clear H'
  obtain ⟨x4_1,x5_1,x6_1,rfl,HA,HK1,HO_4,HO_5,HB⟩:=hrel
  cases gk with
 |zero => exact absurd HA.out (by simp [key_Split.l0])
 |succ k1 =>
   have H:=HA.out
   clear HA
   simp only [key_Split.l0] at H
   by_cases c2 : x6_1 < (a0.size : Int)
   rotate_left
   ·rw [if_neg c2] at H
    have c2b0 : decide (x6_1 < (a0.size : Int)) = false:=decide_eq_false c2
    clear c2
    by_cases c25 : (x5_1.length : Int) > 0
    ·rw [if_pos c25] at H
     have c25b0 : decide (0 < (x5_1.length : Int)) = true:=decide_eq_true c25
     have c25b1 : decide (0 < x5_1.length) = true:=decide_eq_true (by omega)
     clear c25
     simp only [Option.some.injEq,Prod.mk.injEq] at H
     obtain ⟨rfl,rfl⟩:=H
     obtain ⟨Ao26,co26,eo26⟩:=Kd.R_slice HO_5.out
     subst eo26
     go_wp2
     go_ret2
     exact ⟨_,by first|rfl|(simp [errW_none,errW_some] <;> rfl)|(simp [*,errW_none,errW_some] <;> rfl),by first|exact Kd.R_nil _ _ _ _ _|exact Kd.N_nil _ _ _ _ _|exact Kd.V_nil _ _ _ _ _|exact Kd.Q_nil _ _ _ _ _|exact Kd.S_nil _ _ _ _ _,by repeat (first|(with_reducible first|exact HB.out|apply below_alloc|apply pw_below_drewN|apply below_drew1)|exact HB.out)⟩
    rw [if_neg c25] at H
    have c25b0 : decide (0 < (x5_1.length : Int)) = false:=decide_eq_false c25
    have c25b1 : decide (0 < x5_1.length) = false:=decide_eq_false (by omega)
    clear c25
    by_cases c27 : (x4_1.length : Int) = 0
    ·rw [if_pos c27] at H
     have c27b0 : ((x4_1.length : Int) == 0) = true:=beq_iff_eq.mpr c27
     have c27b1 : ((x4_1.length : Int) != 0) = false:=bne_eq_false_iff_eq.mpr c27
     clear c27
     simp only [Option.some.injEq,Prod.mk.injEq] at H
     obtain ⟨rfl,rfl⟩:=H
     obtain ⟨Ao28,co28,eo28⟩:=Kd.R_slice HO_5.out
     subst eo28
     obtain ⟨Ao29,co29,eo29⟩:=Kd.R_slice HO_4.out
     subst eo29
     go_wp2
     go_ret2
     exact ⟨_,by first|rfl|(simp [errW_none,errW_some] <;> rfl)|(simp [*,errW_none,errW_some] <;> rfl),by first|exact Kd.R_nil _ _ _ _ _|exact Kd.N_nil _ _ _ _ _|exact Kd.V_nil _ _ _ _ _|exact Kd.Q_nil _ _ _ _ _|exact Kd.S_nil _ _ _ _ _,by repeat (first|(with_reducible first|exact HB.out|apply below_alloc|apply pw_below_drewN|apply below_drew1)|exact HB.out)⟩
    rw [if_neg c27] at H
    have c27b0 : ((x4_1.length : Int) == 0) = false:=beq_eq_false_iff_ne.mpr c27
    have c27b1 : ((x4_1.length : Int) != 0) = true:=bne_iff_ne.mpr c27
    have c27b2 : ¬ (x4_1 = []):=fun h_ => c27 (by rw [h_];rfl)
    by_cases c30 : (x4_1.length : Int) > 8
    ·rw [if_pos c30] at H
     have c30b0 : decide (8 < (x4_1.length : Int)) = true:=decide_eq_true c30
     have c30b1 : decide (8 < x4_1.length) = true:=decide_eq_true (by omega)
     clear c30
     simp only [Option.some.injEq,Prod.mk.injEq] at H
     obtain ⟨rfl,rfl⟩:=H
     obtain ⟨Ao31,co31,eo31⟩:=Kd.R_slice HO_5.out
     subst eo31
     obtain ⟨Ao32,co32,eo32⟩:=Kd.R_slice HO_4.out
     subst eo32
     go_wp2
     go_ret2
     exact ⟨_,by first|rfl|(simp [errW_none,errW_some] <;> rfl)|(simp [*,errW_none,errW_some] <;> rfl),by first|exact Kd.R_nil _ _ _ _ _|exact Kd.N_nil _ _ _ _ _|exact Kd.V_nil _ _ _ _ _|exact Kd.Q_nil _ _ _ _ _|exact Kd.S_nil _ _ _ _ _,by repeat (first|(with_reducible first|exact HB.out|apply below_alloc|apply pw_below_drewN|apply below_drew1)|exact HB.out)⟩
    rw [if_neg c30] at H
    have c30b0 : decide (8 < (x4_1.length : Int)) = false:=decide_eq_false c30
    have c30b1 : decide (8 < x4_1.length) = false:=decide_eq_false (by omega)
    clear c30
    by_cases c33 : (a0.size : Int) > 120
    rotate_left
    ·rw [if_neg c33] at H
     have c33b0 : decide (120 < (a0.size : Int)) = false:=decide_eq_false c33
     have c33b1 : decide (120 < a0.size) = false:=decide_eq_false (by omega)
     clear c33
     simp only [Option.some.injEq,Prod.mk.injEq] at H
     obtain ⟨rfl,rfl⟩:=H
     obtain ⟨Ao36,co36,eo36⟩:=Kd.R_slice HO_5.out
     subst eo36
     obtain ⟨Ao37,co37,eo37⟩:=Kd.R_slice HO_4.out
     subst eo37
     go_wp2
     go_ret2
     exact ⟨_,by first|rfl|(simp [errW_none,errW_some] <;> rfl)|(simp [*,errW_none,errW_some] <;> rfl),by (with_reducible repeat (first|apply Kd.R_alloc|apply Kd.R_drewN|apply Kd.R_drew));exact HO_4.out,by repeat (first|(with_reducible first|exact HB.out|apply below_alloc|apply pw_below_drewN|apply below_drew1)|exact HB.out)⟩
    rw [if_pos c33] at H
    have c33b0 : decide (120 < (a0.size : Int)) = true:=decide_eq_true c33
    have c33b1 : decide (120 < a0.size) = true:=decide_eq_true (by omega)
    clear c33
    simp only [Option.some.injEq,Prod.mk.injEq] at H
    obtain ⟨rfl,rfl⟩:=H
    obtain ⟨Ao34,co34,eo34⟩:=Kd.R_slice HO_5.out
    subst eo34
    obtain ⟨Ao35,co35,eo35⟩:=Kd.R_slice HO_4.out
    subst eo35
    go_wp2
    go_ret2
    exact ⟨_,by first|rfl|(simp [errW_none,errW_some] <;> rfl)|(simp [*,errW_none,errW_some] <;> rfl),by first|exact Kd.R_nil _ _ _ _ _|exact Kd.N_nil _ _ _ _ _|exact Kd.V_nil _ _ _ _ _|exact Kd.Q_nil _ _ _ _ _|exact Kd.S_nil _ _ _ _ _,by repeat (first|(with_reducible first|exact HB.out|apply below_alloc|apply pw_below_drewN|apply below_drew1)|exact HB.out)⟩
   rw [if_pos c2] at H
   have c2b0 : decide (x6_1 < (a0.size : Int)) = true:=decide_eq_true c2
   clear c2
   by_cases c3 : 0 ≤ x6_1
   rotate_left
   ·rw [if_neg c3] at H
    exact absurd H (by simp)
   rw [if_pos c3] at H
   have c3b0 : decide (0 ≤ x6_1) = true:=decide_eq_true c3
   clear c3
   by_cases c5 : (bt a0 x6_1) = 0
   rotate_left
   ·rw [if_neg c5] at H
    have c5b0 : ((bt a0 x6_1) == 0) = false:=beq_eq_false_iff_ne.mpr c5
    have c5b1 : ((bt a0 x6_1) != 0) = true:=bne_iff_ne.mpr c5
    by_cases c23 : x5_1.length < 140737488355328
    rotate_left
    ·rw [if_neg c23] at H
     exact absurd H (by simp)
    rw [if_pos c23] at H
    have LMc23:=Aside0.mk c23
    clear c23
    obtain ⟨y194,hy194⟩ : ∃ y_ : List Int,y_ = (x5_1 ++ [bt a0 x6_1]):=⟨_,rfl⟩
    replace H : (key_Split.l0 k1 a0 x4_1 y194 (wrap64 (x6_1 + 1))) = some (r1,r2):=by first|(rw [hy194];with_reducible exact H)|(have H2_:=(Option.bind_some _ _).symm.trans H;rw [hy194];with_reducible exact H2_)|(have H2_:=(Option.bind_some _ _).symm.trans H;with_reducible exact H2_)|with_reducible exact H|(rw [hy194];exact H)|exact H
    have Ny194:=Aside0.mk hy194
    clear hy194
    have H':=Aside0.mk H
    clear H
    have p4 : 0 ≤ (x6_1 : Int):=of_decide_eq_true (by first|(with_reducible assumption)|assumption)
    have q4 : x6_1 < (a0.size : Int):=of_decide_eq_true (by first|(with_reducible assumption)|assumption)
    have hx4:=bt_at a0 x6_1
    replace p4:=eq_true p4
    replace q4:=eq_true q4
    have p22 : 0 ≤ (x6_1 : Int):=of_decide_eq_true (by first|(with_reducible assumption)|assumption)
    have q22 : x6_1 < (a0.size : Int):=of_decide_eq_true (by first|(with_reducible assumption)|assumption)
    have hx22:=bt_at a0 x6_1
    replace p22:=eq_true p22
    replace q22:=eq_true q22
    go_wp2_with (first|((with_reducible refine gate_builtin (b:=.append) (xs:=#[.tmp 17,.tmp 21]) rfl ?_);(try (refine gate_guard (by rfl) ?_;dsimp only));at_builtin;refine Kd.R_append (Kd.int .u8) (w0:=w) w.heap.size rfl (.tmp 17) (.tmp 21) 51 5 (.int .u8 0) 1 rfl Tryd.underlying51 info5 rfl (by decide) (by omega) u5 x5_1 (bt a0 x6_1) [.int .u8 (bt a0 x6_1)] (fun _ => True) (fun _ => False) rfl rfl ?aP (fun _ hk => hk.elim) ?aF ?aO ?aB ?aS ?aL ?_;(case aP => exact rfl);(case aB => exact (by repeat (first|(with_reducible first|exact HB.out|apply below_alloc|apply pw_below_drewN|apply below_drew1)|exact HB.out)));(case aF => exact (fun _ _ => trivial));(case aO => exact (by (with_reducible repeat (first|apply Kd.R_alloc|apply Kd.R_drewN|apply Kd.R_drew));exact HO_5.out));(case aS => exact (below_size (by repeat (first|(with_reducible first|exact HB.out|apply below_alloc|apply pw_below_drewN|apply below_drew1)|exact HB.out))));(case aL => have:=LMc23.out;omega);intro v195 w24 ho hb hg hat;rw [← Ny194.out] at ho;have n0_:=Aside0.mk (Kd.R_over' (by (with_reducible repeat (first|apply Kd.R_alloc|apply Kd.R_drewN|apply Kd.R_drew));exact HO_4.out) (Kd.R_typed (by (with_reducible repeat (first|apply Kd.R_alloc|apply Kd.R_drewN|apply Kd.R_drew));exact HO_5.out)) (by decide) hg);have n1_:=Aside0.mk (hb);have n2_:=Aside0.mk (ho);clear HO_4;clear HB;clear HO_5;have HO_4:=n0_;have HB:=n1_;have HO196:=n2_;clear n0_ n1_ n2_;clear ho hb hg hat))
    go_roundg k1
    case measure => have:=HK1.out;omega
    case rel => exact ⟨(x4_1),(y194),(wrap64 (x6_1 + 1)),(by first|rfl|(simp;done)|(simp [*];done)|(simp;rw [Bool.eq_iff_iff];simp;done)|(rw [Bool.eq_iff_iff];simp;done)),H',⟨by have:=HK1.out;omega⟩,⟨by (with_reducible repeat (first|apply Kd.R_alloc|apply Kd.R_drewN|apply Kd.R_drew));exact HO_4.out⟩,⟨by (with_reducible repeat (first|apply Kd.R_alloc|apply Kd.R_drewN|apply Kd.R_drew));exact HO196.out⟩,⟨by repeat (first|(with_reducible first|exact HB.out|apply below_alloc|apply pw_below_drewN|apply below_drew1)|exact HB.out)⟩⟩
   rw [if_pos c5] at H
   have c5b0 : ((bt a0 x6_1) == 0) = true:=beq_iff_eq.mpr c5
   have c5b1 : ((bt a0 x6_1) != 0) = false:=bne_eq_false_iff_eq.mpr c5
   clear c5
   have HC6:=Aside0.mk H
   clear H
   have p4 : 0 ≤ (x6_1 : Int):=of_decide_eq_true (by first|(with_reducible assumption)|assumption)
   have q4 : x6_1 < (a0.size : Int):=of_decide_eq_true (by first|(with_reducible assumption)|assumption)
   have hx4:=bt_at a0 x6_1
   replace p4:=eq_true p4
   replace q4:=eq_true q4
   go_upto_region 10 with (fail)
   go_cut [25] (fun v25 wc => ∃ (kq : Nat) (x25_5 : Bool),v25 = .bool x25_5 ∧ Aside0 (key_Split.j1 kq a0 x4_1 x5_1 (wrap64 (x6_1 + 1)) x25_5 = some (r1,r2)) ∧ Aside0 (kq ≤ k1) ∧ Aside0 (Kd.R Kd.string 9 wc w.heap.size (fun _ => True) u4 x4_1) ∧ Aside0 (Kd.R (Kd.int .u8) 5 wc w.heap.size (fun _ => True) u5 x5_1) ∧ Aside0 (Below w.heap.size w wc))
   case first =>
    have H:=HC6.out
    clear HC6
    by_cases c7 : (wrap64 (x6_1 + 1)) < (a0.size : Int)
    rotate_left
    ·rw [if_neg c7] at H
     have c7b0 : decide ((wrap64 (x6_1 + 1)) < (a0.size : Int)) = false:=decide_eq_false c7
     clear c7
     (first|rw [c7b0]|(simp only [i64_w,i32_w];rw [c7b0])|skip)
     have H':=Aside0.mk H
     clear H
     go_wp2
     go_meet
     case rel => exact ⟨_,(false),(by first|rfl|(simp;done)|(simp [*];done)|(simp;rw [Bool.eq_iff_iff];simp;done)|(rw [Bool.eq_iff_iff];simp;done)),H',⟨by have:=HK1.out;first|omega|exact Nat.le_refl _⟩,⟨by (with_reducible repeat (first|apply Kd.R_alloc|apply Kd.R_drewN|apply Kd.R_drew));exact HO_4.out⟩,⟨by (with_reducible repeat (first|apply Kd.R_alloc|apply Kd.R_drewN|apply Kd.R_drew));exact HO_5.out⟩,⟨by repeat (first|(with_reducible first|exact HB.out|apply below_alloc|apply pw_below_drewN|apply below_drew1)|exact HB.out)⟩⟩
    rw [if_pos c7] at H
    have c7b0 : decide ((wrap64 (x6_1 + 1)) < (a0.size : Int)) = true:=decide_eq_true c7
    clear c7
    (first|rw [c7b0]|(simp only [i64_w,i32_w];rw [c7b0])|skip)
    obtain ⟨ji8,hji8⟩ : ∃ j_ : Int,(wrap64 (x6_1 + 1)) = j_:=⟨_,rfl⟩
    replace H : (if 0 ≤ (ji8) then (key_Split.j1 k1 a0 x4_1 x5_1 ji8 ((bt a0 (ji8)) == 255)) else (none)) = some (r1,r2):=by first|(rw [hji8] at H;exact H)|(simp only [hji8] at H ⊢;exact H)
    (try rw [hji8] at c7b0)
    have hji8w : (IntKind.i64.wrap (x6_1 + 1)) = ji8:=(i64_w _).trans hji8
    by_cases c9 : 0 ≤ (ji8)
    rotate_left
    ·rw [if_neg c9] at H
     exact absurd H (by simp)
    rw [if_pos c9] at H
    have c9b0 : decide (0 ≤ (ji8)) = true:=decide_eq_true c9
    clear c9
    have H':=Aside0.mk H
    clear H
    have p10 : 0 ≤ ((ji8) : Int):=of_decide_eq_true (by first|(with_reducible assumption)|assumption)
    have q10 : (ji8) < (a0.size : Int):=of_decide_eq_true (by first|(with_reducible assumption)|assumption)
    have hx10:=bt_at a0 (ji8)
    replace p10:=eq_true p10
    replace q10:=eq_true q10
    go_wp2
    subst hji8
    go_meet
    case rel => exact ⟨_,(((bt a0 ((wrap64 (x6_1 + 1)))) == 255)),(by first|rfl|(simp;done)|(simp [*];done)),H',⟨by have:=HK1.out;first|omega|exact Nat.le_refl _⟩,⟨by (with_reducible repeat (first|apply Kd.R_alloc|apply Kd.R_drewN|apply Kd.R_drew));exact HO_4.out⟩,⟨by (with_reducible repeat (first|apply Kd.R_alloc|apply Kd.R_drewN|apply Kd.R_drew));exact HO_5.out⟩,⟨by repeat (first|(with_reducible first|exact HB.out|apply below_alloc|apply pw_below_drewN|apply below_drew1)|exact HB.out)⟩⟩
   case rest =>
    clear HC6;(try clear p1);(try clear q1);(try clear hx1);(try clear c2);(try clear c2b0);(try clear p2);(try clear c3);(try clear c3b0);(try clear p4);(try clear q4);(try clear hx4);(try clear c5);(try clear c5b0);(try clear c5b1);(try clear p6);(try clear c7);(try clear c7b0);(try clear c9);(try clear c9b0);(try clear p10);(try clear q10);(try clear hx10);(try clear p10);(try clear p4);(try clear q10);(try clear q4)
    obtain ⟨kq,x25_5,rfl,HA,HJ5,HO_4,HO_5,HB⟩:=hcut
    cases kq with
   |zero => exact absurd HA.out (by simp [key_Split.j1])
   |succ kj5 =>
     have H:=HA.out
     clear HA
     simp only [key_Split.j1] at H
     by_cases c11 : x25_5 = true
     ·subst c11
      have H1 : (if x5_1.length < 140737488355328 then (key_Split.l0 kj5 a0 x4_1 (x5_1 ++ [0]) (wrap64 ((wrap64 (x6_1 + 1)) + 1))) else (none)) = some (r1,r2):=by rw [if_pos rfl] at H;exact H
      clear H;have H:=H1;clear H1
      by_cases c12 : x5_1.length < 140737488355328
      rotate_left
      ·rw [if_neg c12] at H
       exact absurd H (by simp)
      rw [if_pos c12] at H
      have LMc12:=Aside0.mk c12
      clear c12
      obtain ⟨y197,hy197⟩ : ∃ y_ : List Int,y_ = (x5_1 ++ [0]):=⟨_,rfl⟩
      replace H : (key_Split.l0 kj5 a0 x4_1 y197 (wrap64 ((wrap64 (x6_1 + 1)) + 1))) = some (r1,r2):=by first|(rw [hy197];with_reducible exact H)|(have H2_:=(Option.bind_some _ _).symm.trans H;rw [hy197];with_reducible exact H2_)|(have H2_:=(Option.bind_some _ _).symm.trans H;with_reducible exact H2_)|with_reducible exact H|(rw [hy197];exact H)|exact H
      have Ny197:=Aside0.mk hy197
      clear hy197
      have H':=Aside0.mk H
      clear H
      go_wp2_with (first|((with_reducible refine gate_builtin (b:=.append) (xs:=#[.tmp 36,.tmp 37]) rfl ?_);(try (refine gate_guard (by rfl) ?_;dsimp only));at_builtin;refine Kd.R_append (Kd.int .u8) (w0:=w) w.heap.size rfl (.tmp 36) (.tmp 37) 51 5 (.int .u8 0) 1 rfl Tryd.underlying51 info5 rfl (by decide) (by omega) u5 x5_1 0 [.int .u8 0] (fun _ => True) (fun _ => False) rfl rfl ?aP (fun _ hk => hk.elim) ?aF ?aO ?aB ?aS ?aL ?_;(case aP => exact rfl);(case aB => exact (by repeat (first|(with_reducible first|exact HB.out|apply below_alloc|apply pw_below_drewN|apply below_drew1)|exact HB.out)));(case aF => exact (fun _ _ => trivial));(case aO => exact (by (with_reducible repeat (first|apply Kd.R_alloc|apply Kd.R_drewN|apply Kd.R_drew));exact HO_5.out));(case aS => exact (below_size (by repeat (first|(with_reducible first|exact HB.out|apply below_alloc|apply pw_below_drewN|apply below_drew1)|exact HB.out))));(case aL => have:=LMc12.out;omega);intro v198 w13 ho hb hg hat;rw [← Ny197.out] at ho;have n0_:=Aside0.mk (Kd.R_over' (by (with_reducible repeat (first|apply Kd.R_alloc|apply Kd.R_drewN|apply Kd.R_drew));exact HO_4.out) (Kd.R_typed (by (with_reducible repeat (first|apply Kd.R_alloc|apply Kd.R_drewN|apply Kd.R_drew));exact HO_5.out)) (by decide) hg);have n1_:=Aside0.mk (hb);have n2_:=Aside0.mk (ho);clear HO_4;clear HB;clear HO_5;have HO_4:=n0_;have HB:=n1_;have HO199:=n2_;clear n0_ n1_ n2_;clear ho hb hg hat))
      go_roundg kj5
      case measure => have:=HK1.out;have:=HJ5.out;omega
      case rel => exact ⟨(x4_1),(y197),(wrap64 ((wrap64 (x6_1 + 1)) + 1)),(by first|rfl|(simp;done)|(simp [*];done)|(simp;rw [Bool.eq_iff_iff];simp;done)|(rw [Bool.eq_iff_iff];simp;done)),H',⟨by have:=HK1.out;have:=HJ5.out;omega⟩,⟨by (with_reducible repeat (first|apply Kd.R_alloc|apply Kd.R_drewN|apply Kd.R_drew));exact HO_4.out⟩,⟨by (with_reducible repeat (first|apply Kd.R_alloc|apply Kd.R_drewN|apply Kd.R_drew));exact HO199.out⟩,⟨by repeat (first|(with_reducible first|exact HB.out|apply below_alloc|apply pw_below_drewN|apply below_drew1)|exact HB.out)⟩⟩
     replace c11:=Bool.eq_false_iff.mpr c11
     subst c11
     have H1 : (if (wrap64 (x6_1 + 1)) < (a0.size : Int) then (if 0 ≤ (wrap64 (x6_1 + 1)) then (if (bt a0 (wrap64 (x6_1 + 1))) = 1 then (if x4_1.length < 8796093022208 then (key_Split.l0 kj5 a0 (x4_1 ++ [strOfNums x5_1]) ([] : List Int) (wrap64 ((wrap64 (x6_1 + 1)) + 1))) else (none)) else (some (([] : List ByteArray),2))) else (none)) else (some (([] : List ByteArray),2))) = some (r1,r2):=by rw [if_neg (show ¬ (false = true) by decide)] at H;exact H
     clear H;have H:=H1;clear H1
     by_cases c14 : (wrap64 (x6_1 + 1)) < (a0.size : Int)
     rotate_left
     ·rw [if_neg c14] at H
      have c14b0 : decide ((wrap64 (x6_1 + 1)) < (a0.size : Int)) = false:=decide_eq_false c14
      clear c14
      simp only [Option.some.injEq,Prod.mk.injEq] at H
      obtain ⟨rfl,rfl⟩:=H
      go_wp2
      go_ret2
      exact ⟨_,by first|rfl|(simp [errW_none,errW_some] <;> rfl)|(simp [*,errW_none,errW_some] <;> rfl),by first|exact Kd.R_nil _ _ _ _ _|exact Kd.N_nil _ _ _ _ _|exact Kd.V_nil _ _ _ _ _|exact Kd.Q_nil _ _ _ _ _|exact Kd.S_nil _ _ _ _ _,by repeat (first|(with_reducible first|exact HB.out|apply below_alloc|apply pw_below_drewN|apply below_drew1)|exact HB.out)⟩
     rw [if_pos c14] at H
     have c14b0 : decide ((wrap64 (x6_1 + 1)) < (a0.size : Int)) = true:=decide_eq_true c14
     clear c14
     obtain ⟨ji15,hji15⟩ : ∃ j_ : Int,(wrap64 (x6_1 + 1)) = j_:=⟨_,rfl⟩
     replace H : (if 0 ≤ (ji15) then (if (bt a0 (ji15)) = 1 then (if x4_1.length < 8796093022208 then (key_Split.l0 kj5 a0 (x4_1 ++ [strOfNums x5_1]) ([] : List Int) (wrap64 ((ji15) + 1))) else (none)) else (some (([] : List ByteArray),2))) else (none)) = some (r1,r2):=by first|(rw [hji15] at H;exact H)|(simp only [hji15] at H ⊢;exact H)
     (try rw [hji15] at c14b0)
     have hji15w : (IntKind.i64.wrap (x6_1 + 1)) = ji15:=(i64_w _).trans hji15
     by_cases c16 : 0 ≤ (ji15)
     rotate_left
     ·rw [if_neg c16] at H
      exact absurd H (by simp)
     rw [if_pos c16] at H
     have c16b0 : decide (0 ≤ (ji15)) = true:=decide_eq_true c16
     clear c16
     by_cases c18 : (bt a0 (ji15)) = 1
     rotate_left
     ·rw [if_neg c18] at H
      have c18b0 : ((bt a0 (ji15)) == 1) = false:=beq_eq_false_iff_ne.mpr c18
      have c18b1 : ((bt a0 (ji15)) != 1) = true:=bne_iff_ne.mpr c18
      simp only [Option.some.injEq,Prod.mk.injEq] at H
      obtain ⟨rfl,rfl⟩:=H
      have p17 : 0 ≤ ((ji15) : Int):=of_decide_eq_true (by first|(with_reducible assumption)|assumption)
      have q17 : (ji15) < (a0.size : Int):=of_decide_eq_true (by first|(with_reducible assumption)|assumption)
      have hx17:=bt_at a0 (ji15)
      replace p17:=eq_true p17
      replace q17:=eq_true q17
      go_wp2
      go_ret2
      exact ⟨_,by first|rfl|(simp [errW_none,errW_some] <;> rfl)|(simp only [← hji15];first|rfl|(simp [errW_none,errW_some] <;> rfl))|(simp [*,errW_none,errW_some] <;> rfl),by first|exact Kd.R_nil _ _ _ _ _|exact Kd.N_nil _ _ _ _ _|exact Kd.V_nil _ _ _ _ _|exact Kd.Q_nil _ _ _ _ _|exact Kd.S_nil _ _ _ _ _,by repeat (first|(with_reducible first|exact HB.out|apply below_alloc|apply pw_below_drewN|apply below_drew1)|exact HB.out)⟩
     rw [if_pos c18] at H
     have c18b0 : ((bt a0 (ji15)) == 1) = true:=beq_iff_eq.mpr c18
     have c18b1 : ((bt a0 (ji15)) != 1) = false:=bne_eq_false_iff_eq.mpr c18
     clear c18
     by_cases c19 : x4_1.length < 8796093022208
     rotate_left
     ·rw [if_neg c19] at H
      exact absurd H (by simp)
     rw [if_pos c19] at H
     have LMc19:=Aside0.mk c19
     clear c19
     obtain ⟨y200,hy200⟩ : ∃ y_ : List ByteArray,y_ = (x4_1 ++ [strOfNums x5_1]):=⟨_,rfl⟩
     replace H : (key_Split.l0 kj5 a0 y200 ([] : List Int) (wrap64 ((ji15) + 1))) = some (r1,r2):=by first|(rw [hy200];with_reducible exact H)|(have H2_:=(Option.bind_some _ _).symm.trans H;rw [hy200];with_reducible exact H2_)|(have H2_:=(Option.bind_some _ _).symm.trans H;with_reducible exact H2_)|with_reducible exact H|(rw [hy200];exact H)|exact H
     have Ny200:=Aside0.mk hy200
     clear hy200
     have H':=Aside0.mk H
     clear H
     have p17 : 0 ≤ ((ji15) : Int):=of_decide_eq_true (by first|(with_reducible assumption)|assumption)
     have q17 : (ji15) < (a0.size : Int):=of_decide_eq_true (by first|(with_reducible assumption)|assumption)
     have hx17:=bt_at a0 (ji15)
     replace p17:=eq_true p17
     replace q17:=eq_true q17
     have hcv20:=own_string (P:=Tryd.prog) Tryd.underlying51 Tryd.underlying5 Tryd.underlying9 (Kd.own_of_R HO_5.out)
     go_wp2_with (first|((with_reducible refine gate_builtin (b:=.append) (xs:=#[.tmp 50,.tmp 53]) rfl ?_);(try (refine gate_guard (by rfl) ?_;dsimp only));at_builtin;refine Kd.R_append Kd.string (w0:=w) w.heap.size rfl (.tmp 50) (.tmp 53) 68 9 (.string ⟨#[]⟩) 16 rfl Tryd.underlying68 info9 rfl (by decide) (by omega) u4 x4_1 (strOfNums x5_1) [.string (strOfNums x5_1)] (fun _ => True) (fun _ => False) rfl rfl ?aP (fun _ hk => hk.elim) ?aF ?aO ?aB ?aS ?aL ?_;(case aP => exact rfl);(case aB => exact (by repeat (first|(with_reducible first|exact HB.out|apply below_alloc|apply pw_below_drewN|apply below_drew1)|exact HB.out)));(case aF => exact (fun _ _ => trivial));(case aO => exact (by (with_reducible repeat (first|apply Kd.R_alloc|apply Kd.R_drewN|apply Kd.R_drew));exact HO_4.out));(case aS => exact (below_size (by repeat (first|(with_reducible first|exact HB.out|apply below_alloc|apply pw_below_drewN|apply below_drew1)|exact HB.out))));(case aL => have:=LMc19.out;omega);intro v201 w21 ho hb hg hat;rw [← Ny200.out] at ho;have n0_:=Aside0.mk (Kd.R_over' (by (with_reducible repeat (first|apply Kd.R_alloc|apply Kd.R_drewN|apply Kd.R_drew));exact HO_5.out) (Kd.R_typed (by (with_reducible repeat (first|apply Kd.R_alloc|apply Kd.R_drewN|apply Kd.R_drew));exact HO_4.out)) (by decide) hg);have n1_:=Aside0.mk (hb);have n2_:=Aside0.mk (ho);clear HO_5;clear HB;clear HO_4;have HO_5:=n0_;have HB:=n1_;have HO202:=n2_;clear n0_ n1_ n2_;clear ho hb hg hat))
     go_roundg kj5
     case measure => have:=HK1.out;have:=HJ5.out;omega
     case rel => exact ⟨(y200),(([] : List Int)),(wrap64 ((ji15) + 1)),(by first|rfl|(simp;done)|(simp only [← hji15] <;> (first|rfl|simp))|(simp [*];done)),H',⟨by have:=HK1.out;have:=HJ5.out;omega⟩,⟨by (with_reducible repeat (first|apply Kd.R_alloc|apply Kd.R_drewN|apply Kd.R_drew));exact HO202.out⟩,⟨by first|exact Kd.R_nil _ _ _ _ _|exact Kd.N_nil _ _ _ _ _|exact Kd.V_nil _ _ _ _ _|exact Kd.Q_nil _ _ _ _ _|exact Kd.S_nil _ _ _ _ _⟩,⟨by repeat (first|(with_reducible first|exact HB.out|apply below_alloc|apply pw_below_drewN|apply below_drew1)|exact HB.out)⟩⟩
end Go.Proofs.YtniolbolfclhkaaDoor.Q
namespace Go.Proofs.YtniolbolfclhkaaDoor.Q
open Go.RowKit Go.Proofs.YtniolbolfclhkaaDoorW.PrintWords Go.Proofs.YtniolbolfclhkaaDoorW.PrintLast Go.Proofs.YtniolbolfclhkaaDoorW.PrintMore
attribute [local go_sem] max2_int min2_int max_two min_two max_three min_three max_four min_four   -- for this text's walks alone
set_option linter.unusedVariables false
set_option linter.unusedSimpArgs false
mutual
def object_Unkey.j0 : Nat → ByteArray → List ByteArray → Bool → Option (Int × ByteArray × ByteArray × Int)
|0,_,_,_ => none
|k + 1,x0,x6,x22 => if x22 = true then (some (0,(⟨#[]⟩ : ByteArray),(⟨#[]⟩ : ByteArray),2)) else (object_Unkey.l0 k x0 x6 0)
def object_Unkey.l0 : Nat → ByteArray → List ByteArray → Int → Option (Int × ByteArray × ByteArray × Int)
|0,_,_,_ => none
|k + 1,x0,x6,x23 => if x23 < 5 then (if 1 < (x6.length : Int) then (if 2 < (x6.length : Int) then ((object_Key.f x23 (rdOf ByteArray.empty x6 1) (rdOf ByteArray.empty x6 2)).bind fun bt209 => (if bt209.2 = 0 then (if bt209.1.toList = x0.toList then (some (x23,rdOf ByteArray.empty x6 1,rdOf ByteArray.empty x6 2,0)) else (object_Unkey.l0 k x0 x6 (wrap64 (x23 + 1)))) else (object_Unkey.l0 k x0 x6 (wrap64 (x23 + 1))))) else (none)) else (none)) else (some (0,(⟨#[]⟩ : ByteArray),(⟨#[]⟩ : ByteArray),2))
end
def object_Unkey.f (k : Nat) (a0 : ByteArray) : Option (Int × ByteArray × ByteArray × Int) := (key_Split.f k a0).bind fun bt203 => (if bt203.2 = 0 then (object_Unkey.j0 k a0 bt203.1 ((bt203.1.length : Int) != 3)) else (object_Unkey.j0 k a0 bt203.1 true))
theorem object_Unkey.mono_l : ∀ k, (∀ y0 y1 y2, LeO (object_Unkey.j0 k y0 y1 y2) (object_Unkey.j0 (k + 1) y0 y1 y2)) ∧ (∀ y0 y1 y2, LeO (object_Unkey.l0 k y0 y1 y2) (object_Unkey.l0 (k + 1) y0 y1 y2))
|0 => ⟨fun _ _ _ r h => by simp [object_Unkey.j0] at h,fun _ _ _ r h => by simp [object_Unkey.l0] at h⟩
|k + 1 => by
  obtain ⟨ih0,ih1⟩:=object_Unkey.mono_l k
  refine ⟨?_,?_⟩
  ·intro y0 y1 y2
   unfold object_Unkey.j0
   repeat' first
  |(with_reducible exact ih0 _ _ _)
  |(with_reducible exact ih1 _ _ _)
  |(with_reducible exact key_Split.mono _ _)
  |(with_reducible exact LeO.refl _)
  |(with_reducible exact LeO.none _)
  |(with_reducible refine LeO.ite ?_ ?_)
  |(with_reducible refine LeO.bind ?_ (fun _ => ?_))
  |exact ih0 _ _ _
  |exact ih1 _ _ _
  |exact key_Split.mono _ _
  |exact LeO.none _
  |refine LeO.ite ?_ ?_
  |refine LeO.bind ?_ (fun _ => ?_)
  ·intro y0 y1 y2
   unfold object_Unkey.l0
   repeat' first
  |(with_reducible exact ih0 _ _ _)
  |(with_reducible exact ih1 _ _ _)
  |(with_reducible exact key_Split.mono _ _)
  |(with_reducible exact LeO.refl _)
  |(with_reducible exact LeO.none _)
  |(with_reducible refine LeO.ite ?_ ?_)
  |(with_reducible refine LeO.bind ?_ (fun _ => ?_))
  |exact ih0 _ _ _
  |exact ih1 _ _ _
  |exact key_Split.mono _ _
  |exact LeO.none _
  |refine LeO.ite ?_ ?_
  |refine LeO.bind ?_ (fun _ => ?_)
theorem object_Unkey.mono : ∀ a0 k, LeO (object_Unkey.f k a0) (object_Unkey.f (k + 1) a0) := by
 intro a0 k
 obtain ⟨ih0,ih1⟩:=object_Unkey.mono_l k
 unfold object_Unkey.f
 repeat' first
  |(with_reducible exact ih0 _ _ _)
  |(with_reducible exact ih1 _ _ _)
  |(with_reducible exact key_Split.mono _ _)
  |(with_reducible exact LeO.refl _)
  |(with_reducible exact LeO.none _)
  |(with_reducible refine LeO.ite ?_ ?_)
  |(with_reducible refine LeO.bind ?_ (fun _ => ?_))
  |exact ih0 _ _ _
  |exact ih1 _ _ _
  |exact key_Split.mono _ _
  |exact LeO.none _
  |refine LeO.ite ?_ ?_
  |refine LeO.bind ?_ (fun _ => ?_)
def object_Unkey.T7 : Bool × List (List Nat × List Nat) := (true, [([], []), ([], []), ([1], [1]), ([2], [2]), ([], []), ([4], [4]), ([5], [5]), ([0, 3, 6], [0, 3, 6]), ([7], [7]), ([8], [8]), ([8], [8]), ([9, 7, 0, 1, 2, 3, 4, 5, 6, 7, 8, 9], [9]), ([10, 11, 0, 1, 2, 3, 4, 5, 6, 7, 8, 9, 10, 11], [10])])
def object_Unkey.B7 : List Nat := [0, 0, 2, 6, 0, 16, 48, 127, 255, 511, 511, 1023, 4095]
theorem object_Unkey.tab7 : rtab .any (opsOf Tryd.f13 7) = object_Unkey.T7 := by kernel_rfl
theorem object_Unkey.bits7 : waitsOk object_Unkey.T7.2 object_Unkey.B7 = true := by kernel_rfl
def object_Unkey.T9 : Bool × List (List Nat × List Nat) := (true, [([], []), ([], []), ([1], [1]), ([2], [2]), ([], []), ([4], [4]), ([5], [5]), ([0, 0], [0]), ([3, 7, 0, 1, 2, 3, 7], [3]), ([6, 8, 0, 1, 2, 3, 4, 5, 6, 7, 8], [6]), ([9, 0, 1, 2, 3, 4, 5, 6, 7, 8, 9], [])])
def object_Unkey.B9 : List Nat := [0, 0, 2, 6, 0, 16, 48, 1, 143, 511, 1023]
theorem object_Unkey.tab9 : rtab .any (opsOf Tryd.f13 9) = object_Unkey.T9 := by kernel_rfl
theorem object_Unkey.bits9 : waitsOk object_Unkey.T9.2 object_Unkey.B9 = true := by kernel_rfl
set_option maxHeartbeats 8000000 in
set_option maxRecDepth 100000 in
theorem object_Unkey.calls (k : Nat) (a0 : ByteArray) (r1 : Int) (r2 : ByteArray) (r3 : ByteArray) (r4 : Int) (w : World) (h : object_Unkey.f k a0 = some (r1, r2, r3, r4)) (hG : Glob w) :
  Calls Tryd.prog 13 #[.string a0] w fun e w' => e = .returned (.tuple #[.int .i64 r1,.string r2,.string r3,.int .i64 r4]) ∧ Below w.heap.size w w':=by
 have HB:=Aside0.mk (Below.refl w.heap.size w)
 have H : ((key_Split.f k a0).bind fun bt203 => (if bt203.2 = 0 then (object_Unkey.j0 k a0 bt203.1 ((bt203.1.length : Int) != 3)) else (object_Unkey.j0 k a0 bt203.1 true))) = some (r1,r2,r3,r4):=h
 clear h
 replace H:=Option.bind_eq_some_iff.mp H
 obtain ⟨⟨t203,t204⟩,A20,H⟩:=H
 replace H : (if t204 = 0 then (object_Unkey.j0 k a0 t203 ((t203.length : Int) != 3)) else (object_Unkey.j0 k a0 t203 true)) = some (r1,r2,r3,r4):=H
 have A2:=Aside0.mk A20
 clear A20
 have HC3:=Aside0.mk H
 clear H
 go_enter Tryd.func13,Tryd.ntmps13
 go_upto_region 2 with (first|((with_reducible refine gate_callee (f:=34) rfl ?_);refine goesL_ (some 13) rfl rfl Tryd.func34 (by kernel_rfl) rfl #[.string a0] rfl (by (try simp only [List.map_toArray,List.map_cons,List.map_nil]);first|done|rfl|(simp only [List.length_drop,List.length_take];rfl)) ?_;(with_reducible refine (key_Split.calls k a0 t203 t204 _ A2.out).mono ?_);rintro e w4 ⟨v205,rfl,ho0,hb⟩;refine ⟨_,rfl,?_⟩;have n0_:=Aside0.mk (Kd.R_lower ho0 (below_size (by repeat (first|(with_reducible first|exact HB.out|apply below_alloc|apply pw_below_drewN|apply below_drew1)|exact HB.out))));have n1_:=Aside0.mk (below_step (by repeat (first|(with_reducible first|exact HB.out|apply below_alloc|apply pw_below_drewN|apply below_drew1)|exact HB.out)) hb);clear HB;have HO206:=n0_;have HB:=n1_;clear n0_ n1_;(try clear hb);(try clear hb2);(try clear hk);(try clear hi);(try clear ho0)))
 (try simp only [Act.put,List.setIfInBounds_toArray,List.set_cons_zero,List.set_cons_succ])
 go_cut [22] (fun v22 wc => ∃ (kq : Nat) (x22_2 : Bool),v22 = .bool x22_2 ∧ Aside0 (object_Unkey.j0 kq a0 t203 x22_2 = some (r1,r2,r3,r4)) ∧ Aside0 (kq ≤ k) ∧ Aside0 (Kd.R Kd.string 9 wc w.heap.size (fun _ => True) v205 t203) ∧ Aside0 (Below w.heap.size w wc))
 case first =>
  have H:=HC3.out
  clear HC3
  by_cases c5 : t204 = 0
  rotate_left
  ·rw [if_neg c5] at H
   have c5b0 : (t204 == 0) = false:=beq_eq_false_iff_ne.mpr c5
   have c5b1 : (t204 != 0) = true:=bne_iff_ne.mpr c5
   (first|rw [c5b0]|(simp only [i64_w,i32_w];rw [c5b0])|skip)
   have H':=Aside0.mk H
   clear H
   go_wp2
   go_meet
   case rel => exact ⟨_,(true),(by first|rfl|(simp;done)|(simp [*];done)|(simp;rw [Bool.eq_iff_iff];simp;done)|(rw [Bool.eq_iff_iff];simp;done)),H',⟨by first|omega|exact Nat.le_refl _⟩,⟨by (with_reducible repeat (first|apply Kd.R_alloc|apply Kd.R_drewN|apply Kd.R_drew));exact HO206.out⟩,⟨by repeat (first|(with_reducible first|exact HB.out|apply below_alloc|apply pw_below_drewN|apply below_drew1)|exact HB.out)⟩⟩
  rw [if_pos c5] at H
  have c5b0 : (t204 == 0) = true:=beq_iff_eq.mpr c5
  have c5b1 : (t204 != 0) = false:=bne_eq_false_iff_eq.mpr c5
  clear c5
  (first|rw [c5b0]|(simp only [i64_w,i32_w];rw [c5b0])|skip)
  have H':=Aside0.mk H
  clear H
  obtain ⟨Ao6,co6,eo6⟩:=Kd.R_slice HO206.out
  subst eo6
  go_wp2
  go_meet
  case rel => exact ⟨_,(((t203.length : Int) != 3)),(by first|rfl|(simp;done)|(simp [*];done)|(simp;rw [Bool.eq_iff_iff];simp;done)|(rw [Bool.eq_iff_iff];simp;done)),H',⟨by first|omega|exact Nat.le_refl _⟩,⟨by (with_reducible repeat (first|apply Kd.R_alloc|apply Kd.R_drewN|apply Kd.R_drew));exact HO206.out⟩,⟨by repeat (first|(with_reducible first|exact HB.out|apply below_alloc|apply pw_below_drewN|apply below_drew1)|exact HB.out)⟩⟩
 case rest =>
  clear HC3;(try clear c1);(try clear p2);(try clear c3);(try clear c5);(try clear c5b0);(try clear c5b1)
  obtain ⟨kq,x22_2,rfl,HA,HJ2,HO_6,HB⟩:=hcut
  cases kq with
 |zero => exact absurd HA.out (by simp [object_Unkey.j0])
 |succ kj2 =>
   have H:=HA.out
   clear HA
   simp only [object_Unkey.j0] at H
   by_cases c7 : x22_2 = true
   ·subst c7
    have H1 : (some (0,(⟨#[]⟩ : ByteArray),(⟨#[]⟩ : ByteArray),2)) = some (r1,r2,r3,r4):=by rw [if_pos rfl] at H;exact H
    clear H;have H:=H1;clear H1
    simp only [Option.some.injEq,Prod.mk.injEq] at H
    obtain ⟨rfl,rfl,rfl,rfl⟩:=H
    go_wp2
    refine bodyPost_ret (results_list (rs:=[.tmp 2,.tmp 3,.tmp 4,.tmp 5]) rfl (by simp) (.tmp (.tmp (.tmp (.tmp .nil))))) rfl ?_
    exact ⟨by first|rfl|(simp [errW_none,errW_some] <;> rfl)|(simp [*,errW_none,errW_some] <;> rfl),by repeat (first|(with_reducible first|exact HB.out|apply below_alloc|apply pw_below_drewN|apply below_drew1)|exact HB.out)⟩
   replace c7:=Bool.eq_false_iff.mpr c7
   subst c7
   have H1 : (object_Unkey.l0 kj2 a0 t203 0) = some (r1,r2,r3,r4):=by rw [if_neg (show ¬ (false = true) by decide)] at H;exact H
   clear H;have H:=H1;clear H1
   have H':=Aside0.mk H
   clear H
   go_wp2
   go_loopg [23] kj2 (fun kq v23 w' => ∃ (x23_2 : Int),v23 = .int .i64 x23_2 ∧ Aside0 (object_Unkey.l0 kq a0 t203 x23_2 = some (r1,r2,r3,r4)) ∧ Aside0 (kq ≤ kj2) ∧ Aside0 (Kd.R Kd.string 9 w' w.heap.size (fun _ => True) v205 t203) ∧ Aside0 (Below w.heap.size w w'))
   case atStart => exact ⟨(0),(by first|rfl|(simp;done)|(simp [*];done)|(simp;rw [Bool.eq_iff_iff];simp;done)|(rw [Bool.eq_iff_iff];simp;done)),H',⟨Nat.le_refl _⟩,⟨by (with_reducible repeat (first|apply Kd.R_alloc|apply Kd.R_drewN|apply Kd.R_drew));exact HO_6.out⟩,⟨by repeat (first|(with_reducible first|exact HB.out|apply below_alloc|apply pw_below_drewN|apply below_drew1)|exact HB.out)⟩⟩
   case round =>
    clear H';(try clear c1);(try clear p2);(try clear c3);(try clear c5);(try clear c5b0);(try clear c5b1);(try clear c7);(try clear p2)
    obtain ⟨x23_2,rfl,HA,HK2,HO_6,HB⟩:=hrel
    cases gk with
   |zero => exact absurd HA.out (by simp [object_Unkey.l0])
   |succ k2 =>
     have H:=HA.out
     clear HA
     simp only [object_Unkey.l0] at H
     by_cases c8 : x23_2 < 5
     rotate_left
     ·rw [if_neg c8] at H
      have c8b0 : decide (x23_2 < 5) = false:=decide_eq_false c8
      clear c8
      simp only [Option.some.injEq,Prod.mk.injEq] at H
      obtain ⟨rfl,rfl,rfl,rfl⟩:=H
      go_wp2
      refine bodyPost_ret (results_list (rs:=[.tmp 2,.tmp 3,.tmp 4,.tmp 5]) rfl (by simp) (.tmp (.tmp (.tmp (.tmp .nil))))) rfl ?_
      exact ⟨by first|rfl|(simp [errW_none,errW_some] <;> rfl)|(simp [*,errW_none,errW_some] <;> rfl),by repeat (first|(with_reducible first|exact HB.out|apply below_alloc|apply pw_below_drewN|apply below_drew1)|exact HB.out)⟩
     rw [if_pos c8] at H
     have c8b0 : decide (x23_2 < 5) = true:=decide_eq_true c8
     clear c8
     by_cases c9 : 1 < (t203.length : Int)
     rotate_left
     ·rw [if_neg c9] at H
      exact absurd H (by simp)
     rw [if_pos c9] at H
     have c9b0 : decide (1 < (t203.length : Int)) = true:=decide_eq_true c9
     have c9b1 : decide (1 < t203.length) = true:=decide_eq_true (by omega)
     clear c9
     by_cases c10 : 2 < (t203.length : Int)
     rotate_left
     ·rw [if_neg c10] at H
      exact absurd H (by simp)
     rw [if_pos c10] at H
     have c10b0 : decide (2 < (t203.length : Int)) = true:=decide_eq_true c10
     have c10b1 : decide (2 < t203.length) = true:=decide_eq_true (by omega)
     clear c10
     replace H:=Option.bind_eq_some_iff.mp H
     obtain ⟨⟨t209,t210⟩,A110,H⟩:=H
     replace H : (if t210 = 0 then (if t209.toList = a0.toList then (some (x23_2,rdOf ByteArray.empty t203 1,rdOf ByteArray.empty t203 2,0)) else (object_Unkey.l0 k2 a0 t203 (wrap64 (x23_2 + 1)))) else (object_Unkey.l0 k2 a0 t203 (wrap64 (x23_2 + 1)))) = some (r1,r2,r3,r4):=H
     have A11:=Aside0.mk A110
     clear A110
     by_cases c12 : t210 = 0
     rotate_left
     ·rw [if_neg c12] at H
      have c12b0 : (t210 == 0) = false:=beq_eq_false_iff_ne.mpr c12
      have c12b1 : (t210 != 0) = true:=bne_iff_ne.mpr c12
      have H':=Aside0.mk H
      clear H
      try go_wp2
      have n0_:=Aside0.mk (Kd.R_drew HO_6.out)
      have n1_:=Aside0.mk (below_drew1 HB.out)
      clear HO_6;clear HB;have HO_6:=n0_;have HB:=n1_;clear n0_ n1_
      obtain ⟨Ao22,co22,eo22⟩:=Kd.R_slice HO_6.out
      (first|subst eo22|(injection eo22 with f1_ f2_ f3_;have f4_:=f1_.symm;have f5_:=f3_.symm;clear f1_ f2_ f3_;subst f4_;subst f5_))
      have p207 : 0 ≤ (1 : Int):=(by omega)
      have q207 : 1 < (t203.length : Int):=of_decide_eq_true (by first|(with_reducible assumption)|assumption)
      obtain ⟨ad207,e207,hx207_0⟩:=Kd.at_string (Kd.R_reads' HO_6.out).2.2 1 p207 q207
      cases e207
      (try simp only [show (1 : Int).toNat = 1 from rfl,Nat.reduceMul,Nat.reduceEqDiff,Go.Addr.add,↓reduceIte] at hx207_0)
      have qi207 : (1 < t203.length) = True:=eq_true (by omega)
      (try rw [show ((1 : Int)).toNat = 1 from rfl] at hx207_0)
      replace p207:=eq_true p207
      replace q207:=eq_true q207
      have p208 : 0 ≤ (2 : Int):=(by omega)
      have q208 : 2 < (t203.length : Int):=of_decide_eq_true (by first|(with_reducible assumption)|assumption)
      obtain ⟨ad208,e208,hx208_0⟩:=Kd.at_string (Kd.R_reads' HO_6.out).2.2 2 p208 q208
      obtain rfl : ad207 = ad208:=(by injection e208)
      (try simp only [show (2 : Int).toNat = 2 from rfl,Nat.reduceMul,Nat.reduceEqDiff,Go.Addr.add,↓reduceIte] at hx208_0)
      have qi208 : (2 < t203.length) = True:=eq_true (by omega)
      (try rw [show ((2 : Int)).toNat = 2 from rfl] at hx208_0)
      replace p208:=eq_true p208
      replace q208:=eq_true q208
      refine start_ (n:=13) (S:=fun w' => w'.cell? ⟨ad207.block,ad207.off + 1,none⟩ = some (.string (rdOf ByteArray.empty t203 1)) ∧ w'.cell? ⟨ad207.block,ad207.off + 2,none⟩ = some (.string (rdOf ByteArray.empty t203 2))) (ds:=[]) (bl 0 13) (by kernel_rfl) rfl rfl ⟨hx207_0,hx208_0⟩ (fun hHeld => ?_);refine with_tabW object_Unkey.tab7 object_Unkey.bits7 (fun HT_ HW_ => ?_)
      generalize wr.drew = w21 at HO_6 HB hx207_0 hx208_0 hHeld ⊢
      refine pure_ (i:=0) (N:=some 27) (v:=?_) (a':=?_) (bl 1 12) rfl rfl (any_of HT_.out (by kernel_rfl)) (fun _ _ _ h => h) (Or.inl ⟨by rfl,?_⟩) ?_ ?_
      rotate_left;·intro w';go_simp;with_reducible rfl
      rotate_left;·simp only [pu_];rfl
      refine pure_ (i:=1) (N:=some 28) (v:=?_) (a':=?_) (bl 2 11) rfl rfl (any_of HT_.out (by kernel_rfl)) (fun _ _ _ h => h) (Or.inl ⟨by rfl,?_⟩) ?_ ?_
      rotate_left;·intro w';go_simp;with_reducible rfl
      rotate_left;·simp only [pu_];rfl
      refine pure_ (i:=2) (N:=some 29) (v:=?_) (a':=?_) (bl 3 10) rfl rfl (any_of HT_.out (by kernel_rfl)) (fun _ _ _ h => h) (Or.inl ⟨by rfl,?_⟩) ?_ ?_
      rotate_left;·intro w';go_simp;with_reducible rfl
      rotate_left;·simp only [pu_];rfl
      refine pure_ (i:=4) (N:=some 31) (v:=?_) (a':=?_) #[true,true,true,false,true,false,false,false,false,false,false,false,false] rfl rfl (any_of HT_.out (by kernel_rfl)) (fun _ _ _ h => h) (Or.inl ⟨by rfl,?_⟩) ?_ ?_
      rotate_left;·intro w';go_simp;with_reducible rfl
      rotate_left;·simp only [pu_];rfl
      refine pure_ (i:=5) (N:=some 32) (v:=?_) (a':=?_) #[true,true,true,false,true,true,false,false,false,false,false,false,false] rfl rfl (any_of HT_.out (by kernel_rfl)) (fun _ _ _ h => h) (Or.inl ⟨by rfl,?_⟩) ?_ ?_
      rotate_left;·intro w';go_simp;with_reducible rfl
      rotate_left;·simp only [pu_];rfl
      refine take_ (i:=3) (N:=some 30) (v:=?_) (a':=?_) (bl 6 7) rfl rfl (take_ofW HT_.out HW_.out (by kernel_rfl)) (fun _ _ _ h => h) (Or.inl ⟨by rfl,?_⟩) hHeld ?_ ?_
      rotate_left
      ·rintro w' ⟨s0,s1⟩
       go_simp
       with_reducible rfl
      rotate_left
      ·simp only [pu_]
       rfl
      refine take_ (i:=6) (N:=some 33) (v:=?_) (a':=?_) (bl 7 6) rfl rfl (take_ofW HT_.out HW_.out (by kernel_rfl)) (fun _ _ _ h => h) (Or.inl ⟨by rfl,?_⟩) hHeld ?_ ?_
      rotate_left
      ·rintro w' ⟨s0,s1⟩
       go_simp
       with_reducible rfl
      rotate_left
      ·simp only [pu_]
       rfl
      refine one_ (i:=7) (N:=some 34) (bl 8 5) rfl rfl (one_of HT_.out (by kernel_rfl)) (by decide) (fun K hK => ?_)
      refine goes_ Tryd.func11 (by kernel_rfl) rfl #[.int .i64 x23_2,.string (rdOf ByteArray.empty t203 1),.string (rdOf ByteArray.empty t203 2)] (by rfl) rfl rfl (by (try simp only [List.map_toArray,List.map_cons,List.map_nil]);first|done|rfl|(simp only [List.length_drop,List.length_take];rfl)) ?_
      with_reducible refine (object_Key.calls x23_2 (rdOf ByteArray.empty t203 1) (rdOf ByteArray.empty t203 2) t209 t210 _ A11.out (Glob.below hG (by repeat (first|(with_reducible first|exact HB.out|apply below_alloc|apply pw_below_drewN|apply below_drew1)|exact HB.out)))).mono ?_
      rintro e w23 ⟨rfl,hb⟩
      have HS0_:=(hb.cell (World.block_lt_of_cell? _ _ (hHeld.1))).trans (hHeld.1)
      have HS1_:=(hb.cell (World.block_lt_of_cell? _ _ (hHeld.2))).trans (hHeld.2)
      refine ⟨_,rfl,?_⟩
      have n0_:=Aside0.mk (Kd.R_below (by (with_reducible repeat (first|apply Kd.R_alloc|apply Kd.R_drewN|apply Kd.R_drew));exact HO_6.out) hb)
      have n1_:=Aside0.mk (below_step (by repeat (first|(with_reducible first|exact HB.out|apply below_alloc|apply pw_below_drewN|apply below_drew1)|exact HB.out)) hb)
      clear HO_6;clear HB;have HO_6:=n0_;have HB:=n1_;clear n0_ n1_;(try clear hb);(try clear hb2);(try clear hk);(try clear hi)
      refine hK.out _ _ ⟨HS0_,HS1_⟩ (fun hHeld => ?_)
      clear hK K
      refine norm_ (a':=?_) ?_ ?_
      rotate_left
      ·show Act.put _ (some 34) _ = _
       simp only [pu_]
       rfl
      refine pure_ (i:=8) (N:=some 26) (v:=?_) (a':=?_) (bl 9 4) rfl rfl (any_of HT_.out (by kernel_rfl)) (fun _ _ _ h => h) (Or.inl ⟨by rfl,?_⟩) ?_ ?_
      rotate_left;·intro w';go_simp;with_reducible rfl
      rotate_left;·simp only [pu_];rfl
      refine pure_ (i:=9) (N:=some 35) (v:=?_) (a':=?_) (bl 10 3) rfl rfl (any_of HT_.out (by kernel_rfl)) (fun _ _ _ h => h) (Or.inl ⟨by rfl,?_⟩) ?_ ?_
      rotate_left;·intro w';go_simp;with_reducible rfl
      rotate_left;·simp only [pu_];rfl
      refine pure_ (i:=10) (N:=some 36) (v:=?_) (a':=?_) (bl 11 2) rfl rfl (any_of HT_.out (by kernel_rfl)) (fun _ _ _ h => h) (Or.inl ⟨by rfl,?_⟩) ?_ ?_
      rotate_left;·intro w';go_simp;with_reducible rfl
      rotate_left;·simp only [pu_];rfl
      refine pure_ (i:=11) (N:=some 9) (v:=?_) (a':=?_) (bl 12 1) rfl rfl (any_of HT_.out (by kernel_rfl)) (fun _ _ _ h => h) (Or.inl ⟨by rfl,?_⟩) ?_ ?_
      rotate_left;·intro w';go_simp;with_reducible rfl
      rotate_left;·simp only [pu_];rfl
      refine pure_ (i:=12) (N:=some 10) (v:=?_) (a':=?_) (bl 13 0) rfl rfl (any_of HT_.out (by kernel_rfl)) (fun _ _ _ h => h) (Or.inl ⟨by rfl,?_⟩) ?_ ?_
      rotate_left;·intro w';go_simp;with_reducible rfl
      rotate_left;·simp only [pu_];rfl
      refine done_ (done_of HT_.out (by kernel_rfl)) ?_
      try go_wp2
      go_roundg k2
      case measure => have:=HJ2.out;have:=HK2.out;omega
      case rel => exact ⟨(wrap64 (x23_2 + 1)),(by first|rfl|(simp;done)|(simp [*];done)|(simp;rw [Bool.eq_iff_iff];simp;done)|(rw [Bool.eq_iff_iff];simp;done)),H',⟨by have:=HJ2.out;have:=HK2.out;omega⟩,⟨by (with_reducible repeat (first|apply Kd.R_alloc|apply Kd.R_drewN|apply Kd.R_drew));exact HO_6.out⟩,⟨by repeat (first|(with_reducible first|exact HB.out|apply below_alloc|apply pw_below_drewN|apply below_drew1)|exact HB.out)⟩⟩
     rw [if_pos c12] at H
     have c12b0 : (t210 == 0) = true:=beq_iff_eq.mpr c12
     have c12b1 : (t210 != 0) = false:=bne_eq_false_iff_eq.mpr c12
     clear c12
     by_cases c13 : t209.toList = a0.toList
     rotate_left
     ·rw [if_neg c13] at H
      have c13b0 : (t209.toList == a0.toList) = false:=beq_eq_false_iff_ne.mpr c13
      have c13b1 : (t209.toList != a0.toList) = true:=bne_iff_ne.mpr c13
      have H':=Aside0.mk H
      clear H
      try go_wp2
      have n0_:=Aside0.mk (Kd.R_drew HO_6.out)
      have n1_:=Aside0.mk (below_drew1 HB.out)
      clear HO_6;clear HB;have HO_6:=n0_;have HB:=n1_;clear n0_ n1_
      obtain ⟨Ao19,co19,eo19⟩:=Kd.R_slice HO_6.out
      (first|subst eo19|(injection eo19 with f1_ f2_ f3_;have f4_:=f1_.symm;have f5_:=f3_.symm;clear f1_ f2_ f3_;subst f4_;subst f5_))
      have p207 : 0 ≤ (1 : Int):=(by omega)
      have q207 : 1 < (t203.length : Int):=of_decide_eq_true (by first|(with_reducible assumption)|assumption)
      obtain ⟨ad207,e207,hx207_0⟩:=Kd.at_string (Kd.R_reads' HO_6.out).2.2 1 p207 q207
      cases e207
      (try simp only [show (1 : Int).toNat = 1 from rfl,Nat.reduceMul,Nat.reduceEqDiff,Go.Addr.add,↓reduceIte] at hx207_0)
      have qi207 : (1 < t203.length) = True:=eq_true (by omega)
      (try rw [show ((1 : Int)).toNat = 1 from rfl] at hx207_0)
      replace p207:=eq_true p207
      replace q207:=eq_true q207
      have p208 : 0 ≤ (2 : Int):=(by omega)
      have q208 : 2 < (t203.length : Int):=of_decide_eq_true (by first|(with_reducible assumption)|assumption)
      obtain ⟨ad208,e208,hx208_0⟩:=Kd.at_string (Kd.R_reads' HO_6.out).2.2 2 p208 q208
      obtain rfl : ad207 = ad208:=(by injection e208)
      (try simp only [show (2 : Int).toNat = 2 from rfl,Nat.reduceMul,Nat.reduceEqDiff,Go.Addr.add,↓reduceIte] at hx208_0)
      have qi208 : (2 < t203.length) = True:=eq_true (by omega)
      (try rw [show ((2 : Int)).toNat = 2 from rfl] at hx208_0)
      replace p208:=eq_true p208
      replace q208:=eq_true q208
      refine start_ (n:=13) (S:=fun w' => w'.cell? ⟨ad207.block,ad207.off + 1,none⟩ = some (.string (rdOf ByteArray.empty t203 1)) ∧ w'.cell? ⟨ad207.block,ad207.off + 2,none⟩ = some (.string (rdOf ByteArray.empty t203 2))) (ds:=[]) (bl 0 13) (by kernel_rfl) rfl rfl ⟨hx207_0,hx208_0⟩ (fun hHeld => ?_);refine with_tabW object_Unkey.tab7 object_Unkey.bits7 (fun HT_ HW_ => ?_)
      generalize wr.drew = w18 at HO_6 HB hx207_0 hx208_0 hHeld ⊢
      refine pure_ (i:=0) (N:=some 27) (v:=?_) (a':=?_) (bl 1 12) rfl rfl (any_of HT_.out (by kernel_rfl)) (fun _ _ _ h => h) (Or.inl ⟨by rfl,?_⟩) ?_ ?_
      rotate_left;·intro w';go_simp;with_reducible rfl
      rotate_left;·simp only [pu_];rfl
      refine pure_ (i:=1) (N:=some 28) (v:=?_) (a':=?_) (bl 2 11) rfl rfl (any_of HT_.out (by kernel_rfl)) (fun _ _ _ h => h) (Or.inl ⟨by rfl,?_⟩) ?_ ?_
      rotate_left;·intro w';go_simp;with_reducible rfl
      rotate_left;·simp only [pu_];rfl
      refine pure_ (i:=2) (N:=some 29) (v:=?_) (a':=?_) (bl 3 10) rfl rfl (any_of HT_.out (by kernel_rfl)) (fun _ _ _ h => h) (Or.inl ⟨by rfl,?_⟩) ?_ ?_
      rotate_left;·intro w';go_simp;with_reducible rfl
      rotate_left;·simp only [pu_];rfl
      refine pure_ (i:=4) (N:=some 31) (v:=?_) (a':=?_) #[true,true,true,false,true,false,false,false,false,false,false,false,false] rfl rfl (any_of HT_.out (by kernel_rfl)) (fun _ _ _ h => h) (Or.inl ⟨by rfl,?_⟩) ?_ ?_
      rotate_left;·intro w';go_simp;with_reducible rfl
      rotate_left;·simp only [pu_];rfl
      refine pure_ (i:=5) (N:=some 32) (v:=?_) (a':=?_) #[true,true,true,false,true,true,false,false,false,false,false,false,false] rfl rfl (any_of HT_.out (by kernel_rfl)) (fun _ _ _ h => h) (Or.inl ⟨by rfl,?_⟩) ?_ ?_
      rotate_left;·intro w';go_simp;with_reducible rfl
      rotate_left;·simp only [pu_];rfl
      refine take_ (i:=3) (N:=some 30) (v:=?_) (a':=?_) (bl 6 7) rfl rfl (take_ofW HT_.out HW_.out (by kernel_rfl)) (fun _ _ _ h => h) (Or.inl ⟨by rfl,?_⟩) hHeld ?_ ?_
      rotate_left
      ·rintro w' ⟨s0,s1⟩
       go_simp
       with_reducible rfl
      rotate_left
      ·simp only [pu_]
       rfl
      refine take_ (i:=6) (N:=some 33) (v:=?_) (a':=?_) (bl 7 6) rfl rfl (take_ofW HT_.out HW_.out (by kernel_rfl)) (fun _ _ _ h => h) (Or.inl ⟨by rfl,?_⟩) hHeld ?_ ?_
      rotate_left
      ·rintro w' ⟨s0,s1⟩
       go_simp
       with_reducible rfl
      rotate_left
      ·simp only [pu_]
       rfl
      refine one_ (i:=7) (N:=some 34) (bl 8 5) rfl rfl (one_of HT_.out (by kernel_rfl)) (by decide) (fun K hK => ?_)
      refine goes_ Tryd.func11 (by kernel_rfl) rfl #[.int .i64 x23_2,.string (rdOf ByteArray.empty t203 1),.string (rdOf ByteArray.empty t203 2)] (by rfl) rfl rfl (by (try simp only [List.map_toArray,List.map_cons,List.map_nil]);first|done|rfl|(simp only [List.length_drop,List.length_take];rfl)) ?_
      with_reducible refine (object_Key.calls x23_2 (rdOf ByteArray.empty t203 1) (rdOf ByteArray.empty t203 2) t209 t210 _ A11.out (Glob.below hG (by repeat (first|(with_reducible first|exact HB.out|apply below_alloc|apply pw_below_drewN|apply below_drew1)|exact HB.out)))).mono ?_
      rintro e w20 ⟨rfl,hb⟩
      have HS0_:=(hb.cell (World.block_lt_of_cell? _ _ (hHeld.1))).trans (hHeld.1)
      have HS1_:=(hb.cell (World.block_lt_of_cell? _ _ (hHeld.2))).trans (hHeld.2)
      refine ⟨_,rfl,?_⟩
      have n0_:=Aside0.mk (Kd.R_below (by (with_reducible repeat (first|apply Kd.R_alloc|apply Kd.R_drewN|apply Kd.R_drew));exact HO_6.out) hb)
      have n1_:=Aside0.mk (below_step (by repeat (first|(with_reducible first|exact HB.out|apply below_alloc|apply pw_below_drewN|apply below_drew1)|exact HB.out)) hb)
      clear HO_6;clear HB;have HO_6:=n0_;have HB:=n1_;clear n0_ n1_;(try clear hb);(try clear hb2);(try clear hk);(try clear hi)
      refine hK.out _ _ ⟨HS0_,HS1_⟩ (fun hHeld => ?_)
      clear hK K
      refine norm_ (a':=?_) ?_ ?_
      rotate_left
      ·show Act.put _ (some 34) _ = _
       simp only [pu_]
       rfl
      refine pure_ (i:=8) (N:=some 26) (v:=?_) (a':=?_) (bl 9 4) rfl rfl (any_of HT_.out (by kernel_rfl)) (fun _ _ _ h => h) (Or.inl ⟨by rfl,?_⟩) ?_ ?_
      rotate_left;·intro w';go_simp;with_reducible rfl
      rotate_left;·simp only [pu_];rfl
      refine pure_ (i:=9) (N:=some 35) (v:=?_) (a':=?_) (bl 10 3) rfl rfl (any_of HT_.out (by kernel_rfl)) (fun _ _ _ h => h) (Or.inl ⟨by rfl,?_⟩) ?_ ?_
      rotate_left;·intro w';go_simp;with_reducible rfl
      rotate_left;·simp only [pu_];rfl
      refine pure_ (i:=10) (N:=some 36) (v:=?_) (a':=?_) (bl 11 2) rfl rfl (any_of HT_.out (by kernel_rfl)) (fun _ _ _ h => h) (Or.inl ⟨by rfl,?_⟩) ?_ ?_
      rotate_left;·intro w';go_simp;with_reducible rfl
      rotate_left;·simp only [pu_];rfl
      refine pure_ (i:=11) (N:=some 9) (v:=?_) (a':=?_) (bl 12 1) rfl rfl (any_of HT_.out (by kernel_rfl)) (fun _ _ _ h => h) (Or.inl ⟨by rfl,?_⟩) ?_ ?_
      rotate_left;·intro w';go_simp;with_reducible rfl
      rotate_left;·simp only [pu_];rfl
      refine pure_ (i:=12) (N:=some 10) (v:=?_) (a':=?_) (bl 13 0) rfl rfl (any_of HT_.out (by kernel_rfl)) (fun _ _ _ h => h) (Or.inl ⟨by rfl,?_⟩) ?_ ?_
      rotate_left;·intro w';go_simp;with_reducible rfl
      rotate_left;·simp only [pu_];rfl
      refine done_ (done_of HT_.out (by kernel_rfl)) ?_
      try go_wp2
      go_roundg k2
      case measure => have:=HJ2.out;have:=HK2.out;omega
      case rel => exact ⟨(wrap64 (x23_2 + 1)),(by first|rfl|(simp;done)|(simp [*];done)|(simp;rw [Bool.eq_iff_iff];simp;done)|(rw [Bool.eq_iff_iff];simp;done)),H',⟨by have:=HJ2.out;have:=HK2.out;omega⟩,⟨by (with_reducible repeat (first|apply Kd.R_alloc|apply Kd.R_drewN|apply Kd.R_drew));exact HO_6.out⟩,⟨by repeat (first|(with_reducible first|exact HB.out|apply below_alloc|apply pw_below_drewN|apply below_drew1)|exact HB.out)⟩⟩
     rw [if_pos c13] at H
     have c13b0 : (t209.toList == a0.toList) = true:=beq_iff_eq.mpr c13
     have c13b1 : (t209.toList != a0.toList) = false:=bne_eq_false_iff_eq.mpr c13
     clear c13
     simp only [Option.some.injEq,Prod.mk.injEq] at H
     obtain ⟨rfl,rfl,rfl,rfl⟩:=H
     try go_wp2
     have n0_:=Aside0.mk (Kd.R_drew HO_6.out)
     have n1_:=Aside0.mk (below_drew1 HB.out)
     clear HO_6;clear HB;have HO_6:=n0_;have HB:=n1_;clear n0_ n1_
     obtain ⟨Ao15,co15,eo15⟩:=Kd.R_slice HO_6.out
     (first|subst eo15|(injection eo15 with f1_ f2_ f3_;have f4_:=f1_.symm;have f5_:=f3_.symm;clear f1_ f2_ f3_;subst f4_;subst f5_))
     have p207 : 0 ≤ (1 : Int):=(by omega)
     have q207 : 1 < (t203.length : Int):=of_decide_eq_true (by first|(with_reducible assumption)|assumption)
     obtain ⟨ad207,e207,hx207_0⟩:=Kd.at_string (Kd.R_reads' HO_6.out).2.2 1 p207 q207
     cases e207
     (try simp only [show (1 : Int).toNat = 1 from rfl,Nat.reduceMul,Nat.reduceEqDiff,Go.Addr.add,↓reduceIte] at hx207_0)
     have qi207 : (1 < t203.length) = True:=eq_true (by omega)
     (try rw [show ((1 : Int)).toNat = 1 from rfl] at hx207_0)
     replace p207:=eq_true p207
     replace q207:=eq_true q207
     have p208 : 0 ≤ (2 : Int):=(by omega)
     have q208 : 2 < (t203.length : Int):=of_decide_eq_true (by first|(with_reducible assumption)|assumption)
     obtain ⟨ad208,e208,hx208_0⟩:=Kd.at_string (Kd.R_reads' HO_6.out).2.2 2 p208 q208
     obtain rfl : ad207 = ad208:=(by injection e208)
     (try simp only [show (2 : Int).toNat = 2 from rfl,Nat.reduceMul,Nat.reduceEqDiff,Go.Addr.add,↓reduceIte] at hx208_0)
     have qi208 : (2 < t203.length) = True:=eq_true (by omega)
     (try rw [show ((2 : Int)).toNat = 2 from rfl] at hx208_0)
     replace p208:=eq_true p208
     replace q208:=eq_true q208
     refine start_ (n:=13) (S:=fun w' => w'.cell? ⟨ad207.block,ad207.off + 1,none⟩ = some (.string (rdOf ByteArray.empty t203 1)) ∧ w'.cell? ⟨ad207.block,ad207.off + 2,none⟩ = some (.string (rdOf ByteArray.empty t203 2))) (ds:=[]) (bl 0 13) (by kernel_rfl) rfl rfl ⟨hx207_0,hx208_0⟩ (fun hHeld => ?_);refine with_tabW object_Unkey.tab7 object_Unkey.bits7 (fun HT_ HW_ => ?_)
     generalize wr.drew = w14 at HO_6 HB hx207_0 hx208_0 hHeld ⊢
     refine pure_ (i:=0) (N:=some 27) (v:=?_) (a':=?_) (bl 1 12) rfl rfl (any_of HT_.out (by kernel_rfl)) (fun _ _ _ h => h) (Or.inl ⟨by rfl,?_⟩) ?_ ?_
     rotate_left;·intro w';go_simp;with_reducible rfl
     rotate_left;·simp only [pu_];rfl
     refine pure_ (i:=1) (N:=some 28) (v:=?_) (a':=?_) (bl 2 11) rfl rfl (any_of HT_.out (by kernel_rfl)) (fun _ _ _ h => h) (Or.inl ⟨by rfl,?_⟩) ?_ ?_
     rotate_left;·intro w';go_simp;with_reducible rfl
     rotate_left;·simp only [pu_];rfl
     refine pure_ (i:=2) (N:=some 29) (v:=?_) (a':=?_) (bl 3 10) rfl rfl (any_of HT_.out (by kernel_rfl)) (fun _ _ _ h => h) (Or.inl ⟨by rfl,?_⟩) ?_ ?_
     rotate_left;·intro w';go_simp;with_reducible rfl
     rotate_left;·simp only [pu_];rfl
     refine pure_ (i:=4) (N:=some 31) (v:=?_) (a':=?_) #[true,true,true,false,true,false,false,false,false,false,false,false,false] rfl rfl (any_of HT_.out (by kernel_rfl)) (fun _ _ _ h => h) (Or.inl ⟨by rfl,?_⟩) ?_ ?_
     rotate_left;·intro w';go_simp;with_reducible rfl
     rotate_left;·simp only [pu_];rfl
     refine pure_ (i:=5) (N:=some 32) (v:=?_) (a':=?_) #[true,true,true,false,true,true,false,false,false,false,false,false,false] rfl rfl (any_of HT_.out (by kernel_rfl)) (fun _ _ _ h => h) (Or.inl ⟨by rfl,?_⟩) ?_ ?_
     rotate_left;·intro w';go_simp;with_reducible rfl
     rotate_left;·simp only [pu_];rfl
     refine take_ (i:=3) (N:=some 30) (v:=?_) (a':=?_) (bl 6 7) rfl rfl (take_ofW HT_.out HW_.out (by kernel_rfl)) (fun _ _ _ h => h) (Or.inl ⟨by rfl,?_⟩) hHeld ?_ ?_
     rotate_left
     ·rintro w' ⟨s0,s1⟩
      go_simp
      with_reducible rfl
     rotate_left
     ·simp only [pu_]
      rfl
     refine take_ (i:=6) (N:=some 33) (v:=?_) (a':=?_) (bl 7 6) rfl rfl (take_ofW HT_.out HW_.out (by kernel_rfl)) (fun _ _ _ h => h) (Or.inl ⟨by rfl,?_⟩) hHeld ?_ ?_
     rotate_left
     ·rintro w' ⟨s0,s1⟩
      go_simp
      with_reducible rfl
     rotate_left
     ·simp only [pu_]
      rfl
     refine one_ (i:=7) (N:=some 34) (bl 8 5) rfl rfl (one_of HT_.out (by kernel_rfl)) (by decide) (fun K hK => ?_)
     refine goes_ Tryd.func11 (by kernel_rfl) rfl #[.int .i64 x23_2,.string (rdOf ByteArray.empty t203 1),.string (rdOf ByteArray.empty t203 2)] (by rfl) rfl rfl (by (try simp only [List.map_toArray,List.map_cons,List.map_nil]);first|done|rfl|(simp only [List.length_drop,List.length_take];rfl)) ?_
     with_reducible refine (object_Key.calls x23_2 (rdOf ByteArray.empty t203 1) (rdOf ByteArray.empty t203 2) t209 t210 _ A11.out (Glob.below hG (by repeat (first|(with_reducible first|exact HB.out|apply below_alloc|apply pw_below_drewN|apply below_drew1)|exact HB.out)))).mono ?_
     rintro e w16 ⟨rfl,hb⟩
     have HS0_:=(hb.cell (World.block_lt_of_cell? _ _ (hHeld.1))).trans (hHeld.1)
     have HS1_:=(hb.cell (World.block_lt_of_cell? _ _ (hHeld.2))).trans (hHeld.2)
     refine ⟨_,rfl,?_⟩
     have n0_:=Aside0.mk (Kd.R_below (by (with_reducible repeat (first|apply Kd.R_alloc|apply Kd.R_drewN|apply Kd.R_drew));exact HO_6.out) hb)
     have n1_:=Aside0.mk (below_step (by repeat (first|(with_reducible first|exact HB.out|apply below_alloc|apply pw_below_drewN|apply below_drew1)|exact HB.out)) hb)
     clear HO_6;clear HB;have HO_6:=n0_;have HB:=n1_;clear n0_ n1_;(try clear hb);(try clear hb2);(try clear hk);(try clear hi)
     refine hK.out _ _ ⟨HS0_,HS1_⟩ (fun hHeld => ?_)
     clear hK K
     refine norm_ (a':=?_) ?_ ?_
     rotate_left
     ·show Act.put _ (some 34) _ = _
      simp only [pu_]
      rfl
     refine pure_ (i:=8) (N:=some 26) (v:=?_) (a':=?_) (bl 9 4) rfl rfl (any_of HT_.out (by kernel_rfl)) (fun _ _ _ h => h) (Or.inl ⟨by rfl,?_⟩) ?_ ?_
     rotate_left;·intro w';go_simp;with_reducible rfl
     rotate_left;·simp only [pu_];rfl
     refine pure_ (i:=9) (N:=some 35) (v:=?_) (a':=?_) (bl 10 3) rfl rfl (any_of HT_.out (by kernel_rfl)) (fun _ _ _ h => h) (Or.inl ⟨by rfl,?_⟩) ?_ ?_
     rotate_left;·intro w';go_simp;with_reducible rfl
     rotate_left;·simp only [pu_];rfl
     refine pure_ (i:=10) (N:=some 36) (v:=?_) (a':=?_) (bl 11 2) rfl rfl (any_of HT_.out (by kernel_rfl)) (fun _ _ _ h => h) (Or.inl ⟨by rfl,?_⟩) ?_ ?_
     rotate_left;·intro w';go_simp;with_reducible rfl
     rotate_left;·simp only [pu_];rfl
     refine pure_ (i:=11) (N:=some 9) (v:=?_) (a':=?_) (bl 12 1) rfl rfl (any_of HT_.out (by kernel_rfl)) (fun _ _ _ h => h) (Or.inl ⟨by rfl,?_⟩) ?_ ?_
     rotate_left;·intro w';go_simp;with_reducible rfl
     rotate_left;·simp only [pu_];rfl
     refine pure_ (i:=12) (N:=some 10) (v:=?_) (a':=?_) (bl 13 0) rfl rfl (any_of HT_.out (by kernel_rfl)) (fun _ _ _ h => h) (Or.inl ⟨by rfl,?_⟩) ?_ ?_
     rotate_left;·intro w';go_simp;with_reducible rfl
     rotate_left;·simp only [pu_];rfl
     refine done_ (done_of HT_.out (by kernel_rfl)) ?_
     try go_wp2
     have n0_:=Aside0.mk (Kd.R_drew HO_6.out)
     have n1_:=Aside0.mk (below_drew1 HB.out)
     clear HO_6;clear HB;have HO_6:=n0_;have HB:=n1_;clear n0_ n1_
     have p211 : 0 ≤ (1 : Int):=(by omega)
     have q211 : 1 < (t203.length : Int):=of_decide_eq_true (by first|(with_reducible assumption)|assumption)
     obtain ⟨ad211,e211,hx211_0⟩:=Kd.at_string (Kd.R_reads' HO_6.out).2.2 1 p211 q211
     obtain rfl : ad207 = ad211:=(by injection e211)
     (try simp only [show (1 : Int).toNat = 1 from rfl,Nat.reduceMul,Nat.reduceEqDiff,Go.Addr.add,↓reduceIte] at hx211_0)
     have qi211 : (1 < t203.length) = True:=eq_true (by omega)
     (try rw [show ((1 : Int)).toNat = 1 from rfl] at hx211_0)
     replace p211:=eq_true p211
     replace q211:=eq_true q211
     have p212 : 0 ≤ (2 : Int):=(by omega)
     have q212 : 2 < (t203.length : Int):=of_decide_eq_true (by first|(with_reducible assumption)|assumption)
     obtain ⟨ad212,e212,hx212_0⟩:=Kd.at_string (Kd.R_reads' HO_6.out).2.2 2 p212 q212
     obtain rfl : ad207 = ad212:=(by injection e212)
     (try simp only [show (2 : Int).toNat = 2 from rfl,Nat.reduceMul,Nat.reduceEqDiff,Go.Addr.add,↓reduceIte] at hx212_0)
     have qi212 : (2 < t203.length) = True:=eq_true (by omega)
     (try rw [show ((2 : Int)).toNat = 2 from rfl] at hx212_0)
     replace p212:=eq_true p212
     replace q212:=eq_true q212
     refine start_ (n:=11) (S:=fun w' => w'.cell? ⟨ad207.block,ad207.off + 1,none⟩ = some (.string (rdOf ByteArray.empty t203 1)) ∧ w'.cell? ⟨ad207.block,ad207.off + 2,none⟩ = some (.string (rdOf ByteArray.empty t203 2))) (ds:=[]) #[false,false,false,false,false,false,false,false,false,false,false] (by kernel_rfl) rfl rfl ⟨hx211_0,hx212_0⟩ (fun hHeld => ?_);refine with_tabW object_Unkey.tab9 object_Unkey.bits9 (fun HT_ HW_ => ?_)
     generalize w16.drew = w17 at HO_6 HB hx211_0 hx212_0 hHeld ⊢
     refine pure_ (i:=0) (N:=some 44) (v:=?_) (a':=?_) #[true,false,false,false,false,false,false,false,false,false,false] rfl rfl (any_of HT_.out (by kernel_rfl)) (fun _ _ _ h => h) (Or.inl ⟨by rfl,?_⟩) ?_ ?_
     rotate_left;·intro w';go_simp;with_reducible rfl
     rotate_left;·simp only [pu_];rfl
     refine pure_ (i:=1) (N:=some 45) (v:=?_) (a':=?_) #[true,true,false,false,false,false,false,false,false,false,false] rfl rfl (any_of HT_.out (by kernel_rfl)) (fun _ _ _ h => h) (Or.inl ⟨by rfl,?_⟩) ?_ ?_
     rotate_left;·intro w';go_simp;with_reducible rfl
     rotate_left;·simp only [pu_];rfl
     refine pure_ (i:=2) (N:=some 46) (v:=?_) (a':=?_) #[true,true,true,false,false,false,false,false,false,false,false] rfl rfl (any_of HT_.out (by kernel_rfl)) (fun _ _ _ h => h) (Or.inl ⟨by rfl,?_⟩) ?_ ?_
     rotate_left;·intro w';go_simp;with_reducible rfl
     rotate_left;·simp only [pu_];rfl
     refine pure_ (i:=4) (N:=some 48) (v:=?_) (a':=?_) #[true,true,true,false,true,false,false,false,false,false,false] rfl rfl (any_of HT_.out (by kernel_rfl)) (fun _ _ _ h => h) (Or.inl ⟨by rfl,?_⟩) ?_ ?_
     rotate_left;·intro w';go_simp;with_reducible rfl
     rotate_left;·simp only [pu_];rfl
     refine pure_ (i:=5) (N:=some 49) (v:=?_) (a':=?_) #[true,true,true,false,true,true,false,false,false,false,false] rfl rfl (any_of HT_.out (by kernel_rfl)) (fun _ _ _ h => h) (Or.inl ⟨by rfl,?_⟩) ?_ ?_
     rotate_left;·intro w';go_simp;with_reducible rfl
     rotate_left;·simp only [pu_];rfl
     refine pure_ (i:=7) (N:=some 2) (v:=?_) (a':=?_) #[true,true,true,false,true,true,false,true,false,false,false] rfl rfl (any_of HT_.out (by kernel_rfl)) (fun _ _ _ h => h) (Or.inl ⟨by rfl,?_⟩) ?_ ?_
     rotate_left;·intro w';go_simp;with_reducible rfl
     rotate_left;·simp only [pu_];rfl
     refine take_ (i:=3) (N:=some 47) (v:=?_) (a':=?_) #[true,true,true,true,true,true,false,true,false,false,false] rfl rfl (take_ofW HT_.out HW_.out (by kernel_rfl)) (fun _ _ _ h => h) (Or.inl ⟨by rfl,?_⟩) hHeld ?_ ?_
     rotate_left
     ·rintro w' ⟨s0,s1⟩
      go_simp
      with_reducible rfl
     rotate_left
     ·simp only [pu_]
      rfl
     refine pure_ (i:=8) (N:=some 3) (v:=?_) (a':=?_) #[true,true,true,true,true,true,false,true,true,false,false] rfl rfl (any_of HT_.out (by kernel_rfl)) (fun _ _ _ h => h) (Or.inl ⟨by rfl,?_⟩) ?_ ?_
     rotate_left;·intro w';go_simp;with_reducible rfl
     rotate_left;·simp only [pu_];rfl
     refine take_ (i:=6) (N:=some 50) (v:=?_) (a':=?_) #[true,true,true,true,true,true,true,true,true,false,false] rfl rfl (take_ofW HT_.out HW_.out (by kernel_rfl)) (fun _ _ _ h => h) (Or.inl ⟨by rfl,?_⟩) hHeld ?_ ?_
     rotate_left
     ·rintro w' ⟨s0,s1⟩
      go_simp
      with_reducible rfl
     rotate_left
     ·simp only [pu_]
      rfl
     refine pure_ (i:=9) (N:=some 4) (v:=?_) (a':=?_) #[true,true,true,true,true,true,true,true,true,true,false] rfl rfl (any_of HT_.out (by kernel_rfl)) (fun _ _ _ h => h) (Or.inl ⟨by rfl,?_⟩) ?_ ?_
     rotate_left;·intro w';go_simp;with_reducible rfl
     rotate_left;·simp only [pu_];rfl
     refine pure_ (i:=10) (N:=some 5) (v:=?_) (a':=?_) #[true,true,true,true,true,true,true,true,true,true,true] rfl rfl (any_of HT_.out (by kernel_rfl)) (fun _ _ _ h => h) (Or.inl ⟨by rfl,?_⟩) ?_ ?_
     rotate_left;·intro w';go_simp;with_reducible rfl
     rotate_left;·simp only [pu_];rfl
     refine done_ (done_of HT_.out (by kernel_rfl)) ?_
     try go_wp2
     refine bodyPost_ret (results_list (rs:=[.tmp 2,.tmp 3,.tmp 4,.tmp 5]) rfl (by simp) (.tmp (.tmp (.tmp (.tmp .nil))))) rfl ?_
     exact ⟨by first|rfl|(simp [errW_none,errW_some] <;> rfl)|(simp [*,errW_none,errW_some] <;> rfl),by repeat (first|(with_reducible first|exact HB.out|apply below_alloc|apply pw_below_drewN|apply below_drew1)|exact HB.out)⟩
end Go.Proofs.YtniolbolfclhkaaDoor.Q
namespace Go.Proofs.YtniolbolfclhkaaDoor.Q
open Go.RowKit Go.Proofs.YtniolbolfclhkaaDoorW.PrintWords Go.Proofs.YtniolbolfclhkaaDoorW.PrintLast Go.Proofs.YtniolbolfclhkaaDoorW.PrintMore
attribute [local go_sem] max2_int min2_int max_two min_two max_three min_three max_four min_four   -- for this text's walks alone
set_option linter.unusedVariables false
set_option linter.unusedSimpArgs false
def bursarref05_Split.l0 : Nat → ByteArray → List ByteArray → List Int → Int → Option (List ByteArray × Int)
|0,_,_,_,_ => none
|k + 1,x0,x4,x5,x6 => if x6 < (x0.size : Int) then (if 0 ≤ x6 then (if (bt x0 x6) = 0 then (if (wrap64 (x6 + 1)) < (x0.size : Int) then (if 0 ≤ (wrap64 (x6 + 1)) then (if (bt x0 (wrap64 (x6 + 1))) = 1 then (if x4.length < 8796093022208 then (bursarref05_Split.l0 k x0 (x4 ++ [strOfNums x5]) ([] : List Int) (wrap64 ((wrap64 (x6 + 1)) + 1))) else (none)) else (if x5.length < 140737488355328 then (bursarref05_Split.l0 k x0 x4 (x5 ++ [0]) (wrap64 ((wrap64 (x6 + 1)) + 1))) else (none))) else (none)) else (if x5.length < 140737488355328 then (bursarref05_Split.l0 k x0 x4 (x5 ++ [0]) (wrap64 ((wrap64 (x6 + 1)) + 1))) else (none))) else (if x5.length < 140737488355328 then (bursarref05_Split.l0 k x0 x4 (x5 ++ [bt x0 x6]) (wrap64 (x6 + 1))) else (none))) else (none)) else ((bursarref05_Make.f k x4).bind fun bt213 => (if bt213.2 = 0 then (if bt213.1.toList = x0.toList then (some (x4,0)) else (some (([] : List ByteArray),2))) else (some (([] : List ByteArray),2))))
def bursarref05_Split.f (k : Nat) (a0 : ByteArray) : Option (List ByteArray × Int) := bursarref05_Split.l0 k a0 ([] : List ByteArray) ([] : List Int) 0
theorem bursarref05_Split.mono_l : ∀ k, (∀ y0 y1 y2 y3, LeO (bursarref05_Split.l0 k y0 y1 y2 y3) (bursarref05_Split.l0 (k + 1) y0 y1 y2 y3))
|0 => fun _ _ _ _ r h => by simp [bursarref05_Split.l0] at h
|k + 1 => by
  have ih0:=bursarref05_Split.mono_l k
  ·intro y0 y1 y2 y3
   unfold bursarref05_Split.l0
   repeat' first
  |(with_reducible exact ih0 _ _ _ _)
  |(with_reducible exact bursarref05_Make.mono _ _)
  |(with_reducible exact LeO.refl _)
  |(with_reducible exact LeO.none _)
  |(with_reducible refine LeO.ite ?_ ?_)
  |(with_reducible refine LeO.bind ?_ (fun _ => ?_))
  |exact ih0 _ _ _ _
  |exact bursarref05_Make.mono _ _
  |exact LeO.none _
  |refine LeO.ite ?_ ?_
  |refine LeO.bind ?_ (fun _ => ?_)
theorem bursarref05_Split.mono : ∀ a0 k, LeO (bursarref05_Split.f k a0) (bursarref05_Split.f (k + 1) a0) := by
 intro a0 k
 have ih0:=bursarref05_Split.mono_l k
 unfold bursarref05_Split.f
 repeat' first
  |(with_reducible exact ih0 _ _ _ _)
  |(with_reducible exact bursarref05_Make.mono _ _)
  |(with_reducible exact LeO.refl _)
  |(with_reducible exact LeO.none _)
  |(with_reducible refine LeO.ite ?_ ?_)
  |(with_reducible refine LeO.bind ?_ (fun _ => ?_))
  |exact ih0 _ _ _ _
  |exact bursarref05_Make.mono _ _
  |exact LeO.none _
  |refine LeO.ite ?_ ?_
  |refine LeO.bind ?_ (fun _ => ?_)
set_option maxHeartbeats 8000000 in
set_option maxRecDepth 100000 in
theorem bursarref05_Split.calls (k : Nat) (a0 : ByteArray) (r1 : List ByteArray) (r2 : Int) (w : World) (h : bursarref05_Split.f k a0 = some (r1, r2)) :
  Calls Tryd.prog 35 #[.string a0] w fun e w' => ∃ v0_ : Value,e = .returned (.tuple #[v0_,.int .i64 r2]) ∧ Kd.R Kd.string 9 w' w.heap.size (fun _ => True) v0_ r1 ∧ Below w.heap.size w w':=by
 have HB:=Aside0.mk (Below.refl w.heap.size w)
 have H : (bursarref05_Split.l0 k a0 ([] : List ByteArray) ([] : List Int) 0) = some (r1,r2):=h
 clear h
 have H':=Aside0.mk H
 clear H
 go_enter Tryd.func35,Tryd.ntmps35
 go_wp2
 go_loopg [4,5,6] k (fun kq v4 v5 v6 w' => ∃ (x4_1 : List ByteArray) (x5_1 : List Int) (x6_1 : Int),v6 = .int .i64 x6_1 ∧ Aside0 (bursarref05_Split.l0 kq a0 x4_1 x5_1 x6_1 = some (r1,r2)) ∧ Aside0 (kq ≤ k) ∧ Aside0 (Kd.R Kd.string 9 w' w.heap.size (fun _ => True) v4 x4_1) ∧ Aside0 (Kd.R (Kd.int .u8) 5 w' w.heap.size (fun _ => True) v5 x5_1) ∧ Aside0 (Below w.heap.size w w'))
 case atStart => exact ⟨(([] : List ByteArray)),(([] : List Int)),(0),(by first|rfl|(simp;done)|(simp [*];done)|(simp;rw [Bool.eq_iff_iff];simp;done)|(rw [Bool.eq_iff_iff];simp;done)),H',⟨Nat.le_refl _⟩,⟨by first|exact Kd.R_nil _ _ _ _ _|exact Kd.N_nil _ _ _ _ _|exact Kd.V_nil _ _ _ _ _|exact Kd.Q_nil _ _ _ _ _|exact Kd.S_nil _ _ _ _ _⟩,⟨by first|exact Kd.R_nil _ _ _ _ _|exact Kd.N_nil _ _ _ _ _|exact Kd.V_nil _ _ _ _ _|exact Kd.Q_nil _ _ _ _ _|exact Kd.S_nil _ _ _ _ _⟩,⟨by repeat (first|(with_reducible first|exact HB.out|apply below_alloc|apply pw_below_drewN|apply below_drew1)|exact HB.out)⟩⟩
 case round =>
  clear H'
  obtain ⟨x4_1,x5_1,x6_1,rfl,HA,HK1,HO_4,HO_5,HB⟩:=hrel
  cases gk with
 |zero => exact absurd HA.out (by simp [bursarref05_Split.l0])
 |succ k1 =>
   have H:=HA.out
   clear HA
   simp only [bursarref05_Split.l0] at H
   by_cases c2 : x6_1 < (a0.size : Int)
   rotate_left
   ·rw [if_neg c2] at H
    have c2b0 : decide (x6_1 < (a0.size : Int)) = false:=decide_eq_false c2
    clear c2
    replace H:=Option.bind_eq_some_iff.mp H
    obtain ⟨⟨t213,t214⟩,A210,H⟩:=H
    replace H : (if t214 = 0 then (if t213.toList = a0.toList then (some (x4_1,0)) else (some (([] : List ByteArray),2))) else (some (([] : List ByteArray),2))) = some (r1,r2):=H
    have A21:=Aside0.mk A210
    clear A210
    by_cases c22 : t214 = 0
    rotate_left
    ·rw [if_neg c22] at H
     have c22b0 : (t214 == 0) = false:=beq_eq_false_iff_ne.mpr c22
     have c22b1 : (t214 != 0) = true:=bne_iff_ne.mpr c22
     simp only [Option.some.injEq,Prod.mk.injEq] at H
     obtain ⟨rfl,rfl⟩:=H
     obtain ⟨Ao28,co28,eo28⟩:=Kd.R_slice HO_4.out
     subst eo28
     go_wp2_with (first|((with_reducible refine gate_callee (f:=33) rfl ?_);refine goesL_ (some 47) rfl rfl Tryd.func33 (by kernel_rfl) rfl #[.slice Ao28 x4_1.length co28] rfl (by (try simp only [List.map_toArray,List.map_cons,List.map_nil]);first|done|rfl|(simp only [List.length_drop,List.length_take];rfl)) ?_;(with_reducible refine (bursarref05_Make.calls k1 _ _ x4_1 t213 t214 _ ?side1 ?side2 A21.out).mono ?_);(case side1 => repeat (first|exact (Kd.R_reads' HO_4.out).2.2|(with_reducible refine Kd.C_alloc ?_ _)|(with_reducible refine Kd.C_drewN ?_ _)|(with_reducible refine Kd.C_drew ?_)));(case side2 => exact (Kd.R_reads' HO_4.out).2.1);rintro e w29 ⟨rfl,hb⟩;refine ⟨_,rfl,?_⟩;have n0_:=Aside0.mk (Kd.R_below (by (with_reducible repeat (first|apply Kd.R_alloc|apply Kd.R_drewN|apply Kd.R_drew));exact HO_4.out) hb);have n1_:=Aside0.mk (Kd.R_below (by (with_reducible repeat (first|apply Kd.R_alloc|apply Kd.R_drewN|apply Kd.R_drew));exact HO_5.out) hb);have n2_:=Aside0.mk (below_step (by repeat (first|(with_reducible first|exact HB.out|apply below_alloc|apply pw_below_drewN|apply below_drew1)|exact HB.out)) hb);clear HO_4;clear HO_5;clear HB;have HO_4:=n0_;have HO_5:=n1_;have HB:=n2_;clear n0_ n1_ n2_;(try clear hb);(try clear hb2);(try clear hk);(try clear hi)))
     go_ret2
     exact ⟨_,by first|rfl|(simp [errW_none,errW_some] <;> rfl)|(simp [*,errW_none,errW_some] <;> rfl),by first|exact Kd.R_nil _ _ _ _ _|exact Kd.N_nil _ _ _ _ _|exact Kd.V_nil _ _ _ _ _|exact Kd.Q_nil _ _ _ _ _|exact Kd.S_nil _ _ _ _ _,by repeat (first|(with_reducible first|exact HB.out|apply below_alloc|apply pw_below_drewN|apply below_drew1)|exact HB.out)⟩
    rw [if_pos c22] at H
    have c22b0 : (t214 == 0) = true:=beq_iff_eq.mpr c22
    have c22b1 : (t214 != 0) = false:=bne_eq_false_iff_eq.mpr c22
    clear c22
    by_cases c23 : t213.toList = a0.toList
    ·rw [if_pos c23] at H
     have c23b0 : (t213.toList == a0.toList) = true:=beq_iff_eq.mpr c23
     have c23b1 : (t213.toList != a0.toList) = false:=bne_eq_false_iff_eq.mpr c23
     clear c23
     simp only [Option.some.injEq,Prod.mk.injEq] at H
     obtain ⟨rfl,rfl⟩:=H
     obtain ⟨Ao24,co24,eo24⟩:=Kd.R_slice HO_4.out
     subst eo24
     go_wp2_with (first|((with_reducible refine gate_callee (f:=33) rfl ?_);refine goesL_ (some 47) rfl rfl Tryd.func33 (by kernel_rfl) rfl #[.slice Ao24 x4_1.length co24] rfl (by (try simp only [List.map_toArray,List.map_cons,List.map_nil]);first|done|rfl|(simp only [List.length_drop,List.length_take];rfl)) ?_;(with_reducible refine (bursarref05_Make.calls k1 _ _ x4_1 t213 t214 _ ?side1 ?side2 A21.out).mono ?_);(case side1 => repeat (first|exact (Kd.R_reads' HO_4.out).2.2|(with_reducible refine Kd.C_alloc ?_ _)|(with_reducible refine Kd.C_drewN ?_ _)|(with_reducible refine Kd.C_drew ?_)));(case side2 => exact (Kd.R_reads' HO_4.out).2.1);rintro e w25 ⟨rfl,hb⟩;refine ⟨_,rfl,?_⟩;have n0_:=Aside0.mk (Kd.R_below (by (with_reducible repeat (first|apply Kd.R_alloc|apply Kd.R_drewN|apply Kd.R_drew));exact HO_4.out) hb);have n1_:=Aside0.mk (Kd.R_below (by (with_reducible repeat (first|apply Kd.R_alloc|apply Kd.R_drewN|apply Kd.R_drew));exact HO_5.out) hb);have n2_:=Aside0.mk (below_step (by repeat (first|(with_reducible first|exact HB.out|apply below_alloc|apply pw_below_drewN|apply below_drew1)|exact HB.out)) hb);clear HO_4;clear HO_5;clear HB;have HO_4:=n0_;have HO_5:=n1_;have HB:=n2_;clear n0_ n1_ n2_;(try clear hb);(try clear hb2);(try clear hk);(try clear hi)))
     go_ret2
     exact ⟨_,by first|rfl|(simp [errW_none,errW_some] <;> rfl)|(simp [*,errW_none,errW_some] <;> rfl),by (with_reducible repeat (first|apply Kd.R_alloc|apply Kd.R_drewN|apply Kd.R_drew));exact HO_4.out,by repeat (first|(with_reducible first|exact HB.out|apply below_alloc|apply pw_below_drewN|apply below_drew1)|exact HB.out)⟩
    rw [if_neg c23] at H
    have c23b0 : (t213.toList == a0.toList) = false:=beq_eq_false_iff_ne.mpr c23
    have c23b1 : (t213.toList != a0.toList) = true:=bne_iff_ne.mpr c23
    simp only [Option.some.injEq,Prod.mk.injEq] at H
    obtain ⟨rfl,rfl⟩:=H
    obtain ⟨Ao26,co26,eo26⟩:=Kd.R_slice HO_4.out
    subst eo26
    go_wp2_with (first|((with_reducible refine gate_callee (f:=33) rfl ?_);refine goesL_ (some 47) rfl rfl Tryd.func33 (by kernel_rfl) rfl #[.slice Ao26 x4_1.length co26] rfl (by (try simp only [List.map_toArray,List.map_cons,List.map_nil]);first|done|rfl|(simp only [List.length_drop,List.length_take];rfl)) ?_;(with_reducible refine (bursarref05_Make.calls k1 _ _ x4_1 t213 t214 _ ?side1 ?side2 A21.out).mono ?_);(case side1 => repeat (first|exact (Kd.R_reads' HO_4.out).2.2|(with_reducible refine Kd.C_alloc ?_ _)|(with_reducible refine Kd.C_drewN ?_ _)|(with_reducible refine Kd.C_drew ?_)));(case side2 => exact (Kd.R_reads' HO_4.out).2.1);rintro e w27 ⟨rfl,hb⟩;refine ⟨_,rfl,?_⟩;have n0_:=Aside0.mk (Kd.R_below (by (with_reducible repeat (first|apply Kd.R_alloc|apply Kd.R_drewN|apply Kd.R_drew));exact HO_4.out) hb);have n1_:=Aside0.mk (Kd.R_below (by (with_reducible repeat (first|apply Kd.R_alloc|apply Kd.R_drewN|apply Kd.R_drew));exact HO_5.out) hb);have n2_:=Aside0.mk (below_step (by repeat (first|(with_reducible first|exact HB.out|apply below_alloc|apply pw_below_drewN|apply below_drew1)|exact HB.out)) hb);clear HO_4;clear HO_5;clear HB;have HO_4:=n0_;have HO_5:=n1_;have HB:=n2_;clear n0_ n1_ n2_;(try clear hb);(try clear hb2);(try clear hk);(try clear hi)))
    go_ret2
    exact ⟨_,by first|rfl|(simp [errW_none,errW_some] <;> rfl)|(simp [*,errW_none,errW_some] <;> rfl),by first|exact Kd.R_nil _ _ _ _ _|exact Kd.N_nil _ _ _ _ _|exact Kd.V_nil _ _ _ _ _|exact Kd.Q_nil _ _ _ _ _|exact Kd.S_nil _ _ _ _ _,by repeat (first|(with_reducible first|exact HB.out|apply below_alloc|apply pw_below_drewN|apply below_drew1)|exact HB.out)⟩
   rw [if_pos c2] at H
   have c2b0 : decide (x6_1 < (a0.size : Int)) = true:=decide_eq_true c2
   clear c2
   by_cases c3 : 0 ≤ x6_1
   rotate_left
   ·rw [if_neg c3] at H
    exact absurd H (by simp)
   rw [if_pos c3] at H
   have c3b0 : decide (0 ≤ x6_1) = true:=decide_eq_true c3
   clear c3
   by_cases c5 : (bt a0 x6_1) = 0
   rotate_left
   ·rw [if_neg c5] at H
    have c5b0 : ((bt a0 x6_1) == 0) = false:=beq_eq_false_iff_ne.mpr c5
    have c5b1 : ((bt a0 x6_1) != 0) = true:=bne_iff_ne.mpr c5
    by_cases c19 : x5_1.length < 140737488355328
    rotate_left
    ·rw [if_neg c19] at H
     exact absurd H (by simp)
    rw [if_pos c19] at H
    have LMc19:=Aside0.mk c19
    clear c19
    obtain ⟨y224,hy224⟩ : ∃ y_ : List Int,y_ = (x5_1 ++ [bt a0 x6_1]):=⟨_,rfl⟩
    replace H : (bursarref05_Split.l0 k1 a0 x4_1 y224 (wrap64 (x6_1 + 1))) = some (r1,r2):=by first|(rw [hy224];with_reducible exact H)|(have H2_:=(Option.bind_some _ _).symm.trans H;rw [hy224];with_reducible exact H2_)|(have H2_:=(Option.bind_some _ _).symm.trans H;with_reducible exact H2_)|with_reducible exact H|(rw [hy224];exact H)|exact H
    have Ny224:=Aside0.mk hy224
    clear hy224
    have H':=Aside0.mk H
    clear H
    have p4 : 0 ≤ (x6_1 : Int):=of_decide_eq_true (by first|(with_reducible assumption)|assumption)
    have q4 : x6_1 < (a0.size : Int):=of_decide_eq_true (by first|(with_reducible assumption)|assumption)
    have hx4:=bt_at a0 x6_1
    replace p4:=eq_true p4
    replace q4:=eq_true q4
    have p18 : 0 ≤ (x6_1 : Int):=of_decide_eq_true (by first|(with_reducible assumption)|assumption)
    have q18 : x6_1 < (a0.size : Int):=of_decide_eq_true (by first|(with_reducible assumption)|assumption)
    have hx18:=bt_at a0 x6_1
    replace p18:=eq_true p18
    replace q18:=eq_true q18
    go_wp2_with (first|((with_reducible refine gate_builtin (b:=.append) (xs:=#[.tmp 19,.tmp 23]) rfl ?_);at_builtin;refine Kd.R_append (Kd.int .u8) (w0:=w) w.heap.size rfl (.tmp 19) (.tmp 23) 51 5 (.int .u8 0) 1 rfl Tryd.underlying51 info5 rfl (by decide) (by omega) u5 x5_1 (bt a0 x6_1) [.int .u8 (bt a0 x6_1)] (fun _ => True) (fun _ => False) rfl rfl ?aP (fun _ hk => hk.elim) ?aF ?aO ?aB ?aS ?aL ?_;(case aP => exact rfl);(case aB => exact (by repeat (first|(with_reducible first|exact HB.out|apply below_alloc|apply pw_below_drewN|apply below_drew1)|exact HB.out)));(case aF => exact (fun _ _ => trivial));(case aO => exact (by (with_reducible repeat (first|apply Kd.R_alloc|apply Kd.R_drewN|apply Kd.R_drew));exact HO_5.out));(case aS => exact (below_size (by repeat (first|(with_reducible first|exact HB.out|apply below_alloc|apply pw_below_drewN|apply below_drew1)|exact HB.out))));(case aL => have:=LMc19.out;omega);intro v225 w20 ho hb hg hat;rw [← Ny224.out] at ho;have n0_:=Aside0.mk (Kd.R_over' (by (with_reducible repeat (first|apply Kd.R_alloc|apply Kd.R_drewN|apply Kd.R_drew));exact HO_4.out) (Kd.R_typed (by (with_reducible repeat (first|apply Kd.R_alloc|apply Kd.R_drewN|apply Kd.R_drew));exact HO_5.out)) (by decide) hg);have n1_:=Aside0.mk (hb);have n2_:=Aside0.mk (ho);clear HO_4;clear HB;clear HO_5;have HO_4:=n0_;have HB:=n1_;have HO226:=n2_;clear n0_ n1_ n2_;clear ho hb hg hat))
    go_roundg k1
    case measure => have:=HK1.out;omega
    case rel => exact ⟨(x4_1),(y224),(wrap64 (x6_1 + 1)),(by first|rfl|(simp;done)|(simp [*];done)|(simp;rw [Bool.eq_iff_iff];simp;done)|(rw [Bool.eq_iff_iff];simp;done)),H',⟨by have:=HK1.out;omega⟩,⟨by (with_reducible repeat (first|apply Kd.R_alloc|apply Kd.R_drewN|apply Kd.R_drew));exact HO_4.out⟩,⟨by (with_reducible repeat (first|apply Kd.R_alloc|apply Kd.R_drewN|apply Kd.R_drew));exact HO226.out⟩,⟨by repeat (first|(with_reducible first|exact HB.out|apply below_alloc|apply pw_below_drewN|apply below_drew1)|exact HB.out)⟩⟩
   rw [if_pos c5] at H
   have c5b0 : ((bt a0 x6_1) == 0) = true:=beq_iff_eq.mpr c5
   have c5b1 : ((bt a0 x6_1) != 0) = false:=bne_eq_false_iff_eq.mpr c5
   clear c5
   by_cases c6 : (wrap64 (x6_1 + 1)) < (a0.size : Int)
   rotate_left
   ·rw [if_neg c6] at H
    have c6b0 : decide ((wrap64 (x6_1 + 1)) < (a0.size : Int)) = false:=decide_eq_false c6
    clear c6
    by_cases c16 : x5_1.length < 140737488355328
    rotate_left
    ·rw [if_neg c16] at H
     exact absurd H (by simp)
    rw [if_pos c16] at H
    have LMc16:=Aside0.mk c16
    clear c16
    obtain ⟨y221,hy221⟩ : ∃ y_ : List Int,y_ = (x5_1 ++ [0]):=⟨_,rfl⟩
    replace H : (bursarref05_Split.l0 k1 a0 x4_1 y221 (wrap64 ((wrap64 (x6_1 + 1)) + 1))) = some (r1,r2):=by first|(rw [hy221];with_reducible exact H)|(have H2_:=(Option.bind_some _ _).symm.trans H;rw [hy221];with_reducible exact H2_)|(have H2_:=(Option.bind_some _ _).symm.trans H;with_reducible exact H2_)|with_reducible exact H|(rw [hy221];exact H)|exact H
    have Ny221:=Aside0.mk hy221
    clear hy221
    have H':=Aside0.mk H
    clear H
    have p4 : 0 ≤ (x6_1 : Int):=of_decide_eq_true (by first|(with_reducible assumption)|assumption)
    have q4 : x6_1 < (a0.size : Int):=of_decide_eq_true (by first|(with_reducible assumption)|assumption)
    have hx4:=bt_at a0 x6_1
    replace p4:=eq_true p4
    replace q4:=eq_true q4
    go_wp2_with (first|((with_reducible refine gate_builtin (b:=.append) (xs:=#[.tmp 42,.tmp 43]) rfl ?_);at_builtin;refine Kd.R_append (Kd.int .u8) (w0:=w) w.heap.size rfl (.tmp 42) (.tmp 43) 51 5 (.int .u8 0) 1 rfl Tryd.underlying51 info5 rfl (by decide) (by omega) u5 x5_1 0 [.int .u8 0] (fun _ => True) (fun _ => False) rfl rfl ?aP (fun _ hk => hk.elim) ?aF ?aO ?aB ?aS ?aL ?_;(case aP => exact rfl);(case aB => exact (by repeat (first|(with_reducible first|exact HB.out|apply below_alloc|apply pw_below_drewN|apply below_drew1)|exact HB.out)));(case aF => exact (fun _ _ => trivial));(case aO => exact (by (with_reducible repeat (first|apply Kd.R_alloc|apply Kd.R_drewN|apply Kd.R_drew));exact HO_5.out));(case aS => exact (below_size (by repeat (first|(with_reducible first|exact HB.out|apply below_alloc|apply pw_below_drewN|apply below_drew1)|exact HB.out))));(case aL => have:=LMc16.out;omega);intro v222 w17 ho hb hg hat;rw [← Ny221.out] at ho;have n0_:=Aside0.mk (Kd.R_over' (by (with_reducible repeat (first|apply Kd.R_alloc|apply Kd.R_drewN|apply Kd.R_drew));exact HO_4.out) (Kd.R_typed (by (with_reducible repeat (first|apply Kd.R_alloc|apply Kd.R_drewN|apply Kd.R_drew));exact HO_5.out)) (by decide) hg);have n1_:=Aside0.mk (hb);have n2_:=Aside0.mk (ho);clear HO_4;clear HB;clear HO_5;have HO_4:=n0_;have HB:=n1_;have HO223:=n2_;clear n0_ n1_ n2_;clear ho hb hg hat))
    go_roundg k1
    case measure => have:=HK1.out;omega
    case rel => exact ⟨(x4_1),(y221),(wrap64 ((wrap64 (x6_1 + 1)) + 1)),(by first|rfl|(simp;done)|(simp [*];done)|(simp;rw [Bool.eq_iff_iff];simp;done)|(rw [Bool.eq_iff_iff];simp;done)),H',⟨by have:=HK1.out;omega⟩,⟨by (with_reducible repeat (first|apply Kd.R_alloc|apply Kd.R_drewN|apply Kd.R_drew));exact HO_4.out⟩,⟨by (with_reducible repeat (first|apply Kd.R_alloc|apply Kd.R_drewN|apply Kd.R_drew));exact HO223.out⟩,⟨by repeat (first|(with_reducible first|exact HB.out|apply below_alloc|apply pw_below_drewN|apply below_drew1)|exact HB.out)⟩⟩
   rw [if_pos c6] at H
   have c6b0 : decide ((wrap64 (x6_1 + 1)) < (a0.size : Int)) = true:=decide_eq_true c6
   clear c6
   obtain ⟨ji7,hji7⟩ : ∃ j_ : Int,(wrap64 (x6_1 + 1)) = j_:=⟨_,rfl⟩
   replace H : (if 0 ≤ (ji7) then (if (bt a0 (ji7)) = 1 then (if x4_1.length < 8796093022208 then (bursarref05_Split.l0 k1 a0 (x4_1 ++ [strOfNums x5_1]) ([] : List Int) (wrap64 ((ji7) + 1))) else (none)) else (if x5_1.length < 140737488355328 then (bursarref05_Split.l0 k1 a0 x4_1 (x5_1 ++ [0]) (wrap64 ((ji7) + 1))) else (none))) else (none)) = some (r1,r2):=by first|(rw [hji7] at H;exact H)|(simp only [hji7] at H ⊢;exact H)
   (try rw [hji7] at c6b0)
   have hji7w : (IntKind.i64.wrap (x6_1 + 1)) = ji7:=(i64_w _).trans hji7
   by_cases c8 : 0 ≤ (ji7)
   rotate_left
   ·rw [if_neg c8] at H
    exact absurd H (by simp)
   rw [if_pos c8] at H
   have c8b0 : decide (0 ≤ (ji7)) = true:=decide_eq_true c8
   clear c8
   by_cases c10 : (bt a0 (ji7)) = 1
   rotate_left
   ·rw [if_neg c10] at H
    have c10b0 : ((bt a0 (ji7)) == 1) = false:=beq_eq_false_iff_ne.mpr c10
    have c10b1 : ((bt a0 (ji7)) != 1) = true:=bne_iff_ne.mpr c10
    by_cases c14 : x5_1.length < 140737488355328
    rotate_left
    ·rw [if_neg c14] at H
     exact absurd H (by simp)
    rw [if_pos c14] at H
    have LMc14:=Aside0.mk c14
    clear c14
    obtain ⟨y218,hy218⟩ : ∃ y_ : List Int,y_ = (x5_1 ++ [0]):=⟨_,rfl⟩
    replace H : (bursarref05_Split.l0 k1 a0 x4_1 y218 (wrap64 ((ji7) + 1))) = some (r1,r2):=by first|(rw [hy218];with_reducible exact H)|(have H2_:=(Option.bind_some _ _).symm.trans H;rw [hy218];with_reducible exact H2_)|(have H2_:=(Option.bind_some _ _).symm.trans H;with_reducible exact H2_)|with_reducible exact H|(rw [hy218];exact H)|exact H
    have Ny218:=Aside0.mk hy218
    clear hy218
    have H':=Aside0.mk H
    clear H
    have p4 : 0 ≤ (x6_1 : Int):=of_decide_eq_true (by first|(with_reducible assumption)|assumption)
    have q4 : x6_1 < (a0.size : Int):=of_decide_eq_true (by first|(with_reducible assumption)|assumption)
    have hx4:=bt_at a0 x6_1
    replace p4:=eq_true p4
    replace q4:=eq_true q4
    have p9 : 0 ≤ ((ji7) : Int):=of_decide_eq_true (by first|(with_reducible assumption)|assumption)
    have q9 : (ji7) < (a0.size : Int):=of_decide_eq_true (by first|(with_reducible assumption)|assumption)
    have hx9:=bt_at a0 (ji7)
    replace p9:=eq_true p9
    replace q9:=eq_true q9
    go_wp2_with (first|((with_reducible refine gate_builtin (b:=.append) (xs:=#[.tmp 42,.tmp 43]) rfl ?_);at_builtin;refine Kd.R_append (Kd.int .u8) (w0:=w) w.heap.size rfl (.tmp 42) (.tmp 43) 51 5 (.int .u8 0) 1 rfl Tryd.underlying51 info5 rfl (by decide) (by omega) u5 x5_1 0 [.int .u8 0] (fun _ => True) (fun _ => False) rfl rfl ?aP (fun _ hk => hk.elim) ?aF ?aO ?aB ?aS ?aL ?_;(case aP => exact rfl);(case aB => exact (by repeat (first|(with_reducible first|exact HB.out|apply below_alloc|apply pw_below_drewN|apply below_drew1)|exact HB.out)));(case aF => exact (fun _ _ => trivial));(case aO => exact (by (with_reducible repeat (first|apply Kd.R_alloc|apply Kd.R_drewN|apply Kd.R_drew));exact HO_5.out));(case aS => exact (below_size (by repeat (first|(with_reducible first|exact HB.out|apply below_alloc|apply pw_below_drewN|apply below_drew1)|exact HB.out))));(case aL => have:=LMc14.out;omega);intro v219 w15 ho hb hg hat;rw [← Ny218.out] at ho;have n0_:=Aside0.mk (Kd.R_over' (by (with_reducible repeat (first|apply Kd.R_alloc|apply Kd.R_drewN|apply Kd.R_drew));exact HO_4.out) (Kd.R_typed (by (with_reducible repeat (first|apply Kd.R_alloc|apply Kd.R_drewN|apply Kd.R_drew));exact HO_5.out)) (by decide) hg);have n1_:=Aside0.mk (hb);have n2_:=Aside0.mk (ho);clear HO_4;clear HB;clear HO_5;have HO_4:=n0_;have HB:=n1_;have HO220:=n2_;clear n0_ n1_ n2_;clear ho hb hg hat))
    go_roundg k1
    case measure => have:=HK1.out;omega
    case rel => exact ⟨(x4_1),(y218),(wrap64 ((ji7) + 1)),(by first|rfl|(simp;done)|(simp only [← hji7] <;> (first|rfl|simp))|(simp [*];done)),H',⟨by have:=HK1.out;omega⟩,⟨by (with_reducible repeat (first|apply Kd.R_alloc|apply Kd.R_drewN|apply Kd.R_drew));exact HO_4.out⟩,⟨by (with_reducible repeat (first|apply Kd.R_alloc|apply Kd.R_drewN|apply Kd.R_drew));exact HO220.out⟩,⟨by repeat (first|(with_reducible first|exact HB.out|apply below_alloc|apply pw_below_drewN|apply below_drew1)|exact HB.out)⟩⟩
   rw [if_pos c10] at H
   have c10b0 : ((bt a0 (ji7)) == 1) = true:=beq_iff_eq.mpr c10
   have c10b1 : ((bt a0 (ji7)) != 1) = false:=bne_eq_false_iff_eq.mpr c10
   clear c10
   by_cases c11 : x4_1.length < 8796093022208
   rotate_left
   ·rw [if_neg c11] at H
    exact absurd H (by simp)
   rw [if_pos c11] at H
   have LMc11:=Aside0.mk c11
   clear c11
   obtain ⟨y215,hy215⟩ : ∃ y_ : List ByteArray,y_ = (x4_1 ++ [strOfNums x5_1]):=⟨_,rfl⟩
   replace H : (bursarref05_Split.l0 k1 a0 y215 ([] : List Int) (wrap64 ((ji7) + 1))) = some (r1,r2):=by first|(rw [hy215];with_reducible exact H)|(have H2_:=(Option.bind_some _ _).symm.trans H;rw [hy215];with_reducible exact H2_)|(have H2_:=(Option.bind_some _ _).symm.trans H;with_reducible exact H2_)|with_reducible exact H|(rw [hy215];exact H)|exact H
   have Ny215:=Aside0.mk hy215
   clear hy215
   have H':=Aside0.mk H
   clear H
   have p4 : 0 ≤ (x6_1 : Int):=of_decide_eq_true (by first|(with_reducible assumption)|assumption)
   have q4 : x6_1 < (a0.size : Int):=of_decide_eq_true (by first|(with_reducible assumption)|assumption)
   have hx4:=bt_at a0 x6_1
   replace p4:=eq_true p4
   replace q4:=eq_true q4
   have p9 : 0 ≤ ((ji7) : Int):=of_decide_eq_true (by first|(with_reducible assumption)|assumption)
   have q9 : (ji7) < (a0.size : Int):=of_decide_eq_true (by first|(with_reducible assumption)|assumption)
   have hx9:=bt_at a0 (ji7)
   replace p9:=eq_true p9
   replace q9:=eq_true q9
   have hcv12:=own_string (P:=Tryd.prog) Tryd.underlying51 Tryd.underlying5 Tryd.underlying9 (Kd.own_of_R HO_5.out)
   go_wp2_with (first|((with_reducible refine gate_builtin (b:=.append) (xs:=#[.tmp 37,.tmp 40]) rfl ?_);at_builtin;refine Kd.R_append Kd.string (w0:=w) w.heap.size rfl (.tmp 37) (.tmp 40) 68 9 (.string ⟨#[]⟩) 16 rfl Tryd.underlying68 info9 rfl (by decide) (by omega) u4 x4_1 (strOfNums x5_1) [.string (strOfNums x5_1)] (fun _ => True) (fun _ => False) rfl rfl ?aP (fun _ hk => hk.elim) ?aF ?aO ?aB ?aS ?aL ?_;(case aP => exact rfl);(case aB => exact (by repeat (first|(with_reducible first|exact HB.out|apply below_alloc|apply pw_below_drewN|apply below_drew1)|exact HB.out)));(case aF => exact (fun _ _ => trivial));(case aO => exact (by (with_reducible repeat (first|apply Kd.R_alloc|apply Kd.R_drewN|apply Kd.R_drew));exact HO_4.out));(case aS => exact (below_size (by repeat (first|(with_reducible first|exact HB.out|apply below_alloc|apply pw_below_drewN|apply below_drew1)|exact HB.out))));(case aL => have:=LMc11.out;omega);intro v216 w13 ho hb hg hat;rw [← Ny215.out] at ho;have n0_:=Aside0.mk (Kd.R_over' (by (with_reducible repeat (first|apply Kd.R_alloc|apply Kd.R_drewN|apply Kd.R_drew));exact HO_5.out) (Kd.R_typed (by (with_reducible repeat (first|apply Kd.R_alloc|apply Kd.R_drewN|apply Kd.R_drew));exact HO_4.out)) (by decide) hg);have n1_:=Aside0.mk (hb);have n2_:=Aside0.mk (ho);clear HO_5;clear HB;clear HO_4;have HO_5:=n0_;have HB:=n1_;have HO217:=n2_;clear n0_ n1_ n2_;clear ho hb hg hat))
   go_roundg k1
   case measure => have:=HK1.out;omega
   case rel => exact ⟨(y215),(([] : List Int)),(wrap64 ((ji7) + 1)),(by first|rfl|(simp;done)|(simp only [← hji7] <;> (first|rfl|simp))|(simp [*];done)),H',⟨by have:=HK1.out;omega⟩,⟨by (with_reducible repeat (first|apply Kd.R_alloc|apply Kd.R_drewN|apply Kd.R_drew));exact HO217.out⟩,⟨by first|exact Kd.R_nil _ _ _ _ _|exact Kd.N_nil _ _ _ _ _|exact Kd.V_nil _ _ _ _ _|exact Kd.Q_nil _ _ _ _ _|exact Kd.S_nil _ _ _ _ _⟩,⟨by repeat (first|(with_reducible first|exact HB.out|apply below_alloc|apply pw_below_drewN|apply below_drew1)|exact HB.out)⟩⟩
end Go.Proofs.YtniolbolfclhkaaDoor.Q
namespace Go.Proofs.YtniolbolfclhkaaDoor.Q
open Go.RowKit Go.Proofs.YtniolbolfclhkaaDoorW.PrintWords Go.Proofs.YtniolbolfclhkaaDoorW.PrintLast Go.Proofs.YtniolbolfclhkaaDoorW.PrintMore
attribute [local go_sem] max2_int min2_int max_two min_two max_three min_three max_four min_four   -- for this text's walks alone
set_option linter.unusedVariables false
set_option linter.unusedSimpArgs false
mutual
def bursarref13_Unkey.j0 : Nat → ByteArray → List ByteArray → Bool → Option (Int × ByteArray × ByteArray × Int)
|0,_,_,_ => none
|k + 1,x0,x6,x22 => if x22 = true then (some (0,(⟨#[]⟩ : ByteArray),(⟨#[]⟩ : ByteArray),2)) else (bursarref13_Unkey.l0 k x0 x6 0)
def bursarref13_Unkey.l0 : Nat → ByteArray → List ByteArray → Int → Option (Int × ByteArray × ByteArray × Int)
|0,_,_,_ => none
|k + 1,x0,x6,x8 => if x8 < 5 then (if 1 < (x6.length : Int) then (if 2 < (x6.length : Int) then ((bursarref13_Key.f k x8 (rdOf ByteArray.empty x6 1) (rdOf ByteArray.empty x6 2)).bind fun bt233 => (if bt233.2 = 0 then (if bt233.1.toList = x0.toList then (some (x8,rdOf ByteArray.empty x6 1,rdOf ByteArray.empty x6 2,0)) else (bursarref13_Unkey.l0 k x0 x6 (wrap64 (x8 + 1)))) else (bursarref13_Unkey.l0 k x0 x6 (wrap64 (x8 + 1))))) else (none)) else (none)) else (some (0,(⟨#[]⟩ : ByteArray),(⟨#[]⟩ : ByteArray),2))
end
def bursarref13_Unkey.f (k : Nat) (a0 : ByteArray) : Option (Int × ByteArray × ByteArray × Int) := (bursarref05_Split.f k a0).bind fun bt227 => (if bt227.2 = 0 then (bursarref13_Unkey.j0 k a0 bt227.1 ((bt227.1.length : Int) != 3)) else (bursarref13_Unkey.j0 k a0 bt227.1 true))
theorem bursarref13_Unkey.mono_l : ∀ k, (∀ y0 y1 y2, LeO (bursarref13_Unkey.j0 k y0 y1 y2) (bursarref13_Unkey.j0 (k + 1) y0 y1 y2)) ∧ (∀ y0 y1 y2, LeO (bursarref13_Unkey.l0 k y0 y1 y2) (bursarref13_Unkey.l0 (k + 1) y0 y1 y2))
|0 => ⟨fun _ _ _ r h => by simp [bursarref13_Unkey.j0] at h,fun _ _ _ r h => by simp [bursarref13_Unkey.l0] at h⟩
|k + 1 => by
  obtain ⟨ih0,ih1⟩:=bursarref13_Unkey.mono_l k
  refine ⟨?_,?_⟩
  ·intro y0 y1 y2
   unfold bursarref13_Unkey.j0
   repeat' first
  |(with_reducible exact ih0 _ _ _)
  |(with_reducible exact ih1 _ _ _)
  |(with_reducible exact bursarref05_Split.mono _ _)
  |(with_reducible exact bursarref13_Key.mono _ _ _ _)
  |(with_reducible exact LeO.refl _)
  |(with_reducible exact LeO.none _)
  |(with_reducible refine LeO.ite ?_ ?_)
  |(with_reducible refine LeO.bind ?_ (fun _ => ?_))
  |exact ih0 _ _ _
  |exact ih1 _ _ _
  |exact bursarref05_Split.mono _ _
  |exact bursarref13_Key.mono _ _ _ _
  |exact LeO.none _
  |refine LeO.ite ?_ ?_
  |refine LeO.bind ?_ (fun _ => ?_)
  ·intro y0 y1 y2
   unfold bursarref13_Unkey.l0
   repeat' first
  |(with_reducible exact ih0 _ _ _)
  |(with_reducible exact ih1 _ _ _)
  |(with_reducible exact bursarref05_Split.mono _ _)
  |(with_reducible exact bursarref13_Key.mono _ _ _ _)
  |(with_reducible exact LeO.refl _)
  |(with_reducible exact LeO.none _)
  |(with_reducible refine LeO.ite ?_ ?_)
  |(with_reducible refine LeO.bind ?_ (fun _ => ?_))
  |exact ih0 _ _ _
  |exact ih1 _ _ _
  |exact bursarref05_Split.mono _ _
  |exact bursarref13_Key.mono _ _ _ _
  |exact LeO.none _
  |refine LeO.ite ?_ ?_
  |refine LeO.bind ?_ (fun _ => ?_)
theorem bursarref13_Unkey.mono : ∀ a0 k, LeO (bursarref13_Unkey.f k a0) (bursarref13_Unkey.f (k + 1) a0) := by
 intro a0 k
 obtain ⟨ih0,ih1⟩:=bursarref13_Unkey.mono_l k
 unfold bursarref13_Unkey.f
 repeat' first
  |(with_reducible exact ih0 _ _ _)
  |(with_reducible exact ih1 _ _ _)
  |(with_reducible exact bursarref05_Split.mono _ _)
  |(with_reducible exact bursarref13_Key.mono _ _ _ _)
  |(with_reducible exact LeO.refl _)
  |(with_reducible exact LeO.none _)
  |(with_reducible refine LeO.ite ?_ ?_)
  |(with_reducible refine LeO.bind ?_ (fun _ => ?_))
  |exact ih0 _ _ _
  |exact ih1 _ _ _
  |exact bursarref05_Split.mono _ _
  |exact bursarref13_Key.mono _ _ _ _
  |exact LeO.none _
  |refine LeO.ite ?_ ?_
  |refine LeO.bind ?_ (fun _ => ?_)
def bursarref13_Unkey.T7 : Bool × List (List Nat × List Nat) := (true, [([], []), ([], []), ([1], [1]), ([2], [2]), ([], []), ([4], [4]), ([5], [5]), ([0, 3, 6], [0, 3, 6]), ([7], [7]), ([8], [8]), ([8], [8]), ([9, 7, 0, 1, 2, 3, 4, 5, 6, 7, 8, 9], [9]), ([10, 11, 0, 1, 2, 3, 4, 5, 6, 7, 8, 9, 10, 11], [10])])
def bursarref13_Unkey.B7 : List Nat := [0, 0, 2, 6, 0, 16, 48, 127, 255, 511, 511, 1023, 4095]
theorem bursarref13_Unkey.tab7 : rtab .any (opsOf Tryd.f14 7) = bursarref13_Unkey.T7 := by kernel_rfl
theorem bursarref13_Unkey.bits7 : waitsOk bursarref13_Unkey.T7.2 bursarref13_Unkey.B7 = true := by kernel_rfl
def bursarref13_Unkey.T9 : Bool × List (List Nat × List Nat) := (true, [([], []), ([], []), ([1], [1]), ([2], [2]), ([], []), ([4], [4]), ([5], [5]), ([0, 0], [0]), ([3, 7, 0, 1, 2, 3, 7], [3]), ([6, 8, 0, 1, 2, 3, 4, 5, 6, 7, 8], [6]), ([9, 0, 1, 2, 3, 4, 5, 6, 7, 8, 9], [])])
def bursarref13_Unkey.B9 : List Nat := [0, 0, 2, 6, 0, 16, 48, 1, 143, 511, 1023]
theorem bursarref13_Unkey.tab9 : rtab .any (opsOf Tryd.f14 9) = bursarref13_Unkey.T9 := by kernel_rfl
theorem bursarref13_Unkey.bits9 : waitsOk bursarref13_Unkey.T9.2 bursarref13_Unkey.B9 = true := by kernel_rfl
set_option maxHeartbeats 8000000 in
set_option maxRecDepth 100000 in
theorem bursarref13_Unkey.calls (k : Nat) (a0 : ByteArray) (r1 : Int) (r2 : ByteArray) (r3 : ByteArray) (r4 : Int) (w : World) (h : bursarref13_Unkey.f k a0 = some (r1, r2, r3, r4)) :
  Calls Tryd.prog 14 #[.string a0] w fun e w' => e = .returned (.tuple #[.int .i64 r1,.string r2,.string r3,.int .i64 r4]) ∧ Below w.heap.size w w':=by
 have HB:=Aside0.mk (Below.refl w.heap.size w)
 have H : ((bursarref05_Split.f k a0).bind fun bt227 => (if bt227.2 = 0 then (bursarref13_Unkey.j0 k a0 bt227.1 ((bt227.1.length : Int) != 3)) else (bursarref13_Unkey.j0 k a0 bt227.1 true))) = some (r1,r2,r3,r4):=h
 clear h
 replace H:=Option.bind_eq_some_iff.mp H
 obtain ⟨⟨t227,t228⟩,A20,H⟩:=H
 replace H : (if t228 = 0 then (bursarref13_Unkey.j0 k a0 t227 ((t227.length : Int) != 3)) else (bursarref13_Unkey.j0 k a0 t227 true)) = some (r1,r2,r3,r4):=H
 have A2:=Aside0.mk A20
 clear A20
 have HC3:=Aside0.mk H
 clear H
 go_enter Tryd.func14,Tryd.ntmps14
 go_upto_region 2 with (first|((with_reducible refine gate_callee (f:=35) rfl ?_);refine goesL_ (some 13) rfl rfl Tryd.func35 (by kernel_rfl) rfl #[.string a0] rfl (by (try simp only [List.map_toArray,List.map_cons,List.map_nil]);first|done|rfl|(simp only [List.length_drop,List.length_take];rfl)) ?_;(with_reducible refine (bursarref05_Split.calls k a0 t227 t228 _ A2.out).mono ?_);rintro e w4 ⟨v229,rfl,ho0,hb⟩;refine ⟨_,rfl,?_⟩;have n0_:=Aside0.mk (Kd.R_lower ho0 (below_size (by repeat (first|(with_reducible first|exact HB.out|apply below_alloc|apply pw_below_drewN|apply below_drew1)|exact HB.out))));have n1_:=Aside0.mk (below_step (by repeat (first|(with_reducible first|exact HB.out|apply below_alloc|apply pw_below_drewN|apply below_drew1)|exact HB.out)) hb);clear HB;have HO230:=n0_;have HB:=n1_;clear n0_ n1_;(try clear hb);(try clear hb2);(try clear hk);(try clear hi);(try clear ho0)))
 (try simp only [Act.put,List.setIfInBounds_toArray,List.set_cons_zero,List.set_cons_succ])
 go_cut [22] (fun v22 wc => ∃ (kq : Nat) (x22_2 : Bool),v22 = .bool x22_2 ∧ Aside0 (bursarref13_Unkey.j0 kq a0 t227 x22_2 = some (r1,r2,r3,r4)) ∧ Aside0 (kq ≤ k) ∧ Aside0 (Kd.R Kd.string 9 wc w.heap.size (fun _ => True) v229 t227) ∧ Aside0 (Below w.heap.size w wc))
 case first =>
  have H:=HC3.out
  clear HC3
  by_cases c5 : t228 = 0
  rotate_left
  ·rw [if_neg c5] at H
   have c5b0 : (t228 == 0) = false:=beq_eq_false_iff_ne.mpr c5
   have c5b1 : (t228 != 0) = true:=bne_iff_ne.mpr c5
   (first|rw [c5b0]|(simp only [i64_w,i32_w];rw [c5b0])|skip)
   have H':=Aside0.mk H
   clear H
   go_wp2
   go_meet
   case rel => exact ⟨_,(true),(by first|rfl|(simp;done)|(simp [*];done)|(simp;rw [Bool.eq_iff_iff];simp;done)|(rw [Bool.eq_iff_iff];simp;done)),H',⟨by first|omega|exact Nat.le_refl _⟩,⟨by (with_reducible repeat (first|apply Kd.R_alloc|apply Kd.R_drewN|apply Kd.R_drew));exact HO230.out⟩,⟨by repeat (first|(with_reducible first|exact HB.out|apply below_alloc|apply pw_below_drewN|apply below_drew1)|exact HB.out)⟩⟩
  rw [if_pos c5] at H
  have c5b0 : (t228 == 0) = true:=beq_iff_eq.mpr c5
  have c5b1 : (t228 != 0) = false:=bne_eq_false_iff_eq.mpr c5
  clear c5
  (first|rw [c5b0]|(simp only [i64_w,i32_w];rw [c5b0])|skip)
  have H':=Aside0.mk H
  clear H
  obtain ⟨Ao6,co6,eo6⟩:=Kd.R_slice HO230.out
  subst eo6
  go_wp2
  go_meet
  case rel => exact ⟨_,(((t227.length : Int) != 3)),(by first|rfl|(simp;done)|(simp [*];done)|(simp;rw [Bool.eq_iff_iff];simp;done)|(rw [Bool.eq_iff_iff];simp;done)),H',⟨by first|omega|exact Nat.le_refl _⟩,⟨by (with_reducible repeat (first|apply Kd.R_alloc|apply Kd.R_drewN|apply Kd.R_drew));exact HO230.out⟩,⟨by repeat (first|(with_reducible first|exact HB.out|apply below_alloc|apply pw_below_drewN|apply below_drew1)|exact HB.out)⟩⟩
 case rest =>
  clear HC3;(try clear c1);(try clear p2);(try clear c3);(try clear c5);(try clear c5b0);(try clear c5b1)
  obtain ⟨kq,x22_2,rfl,HA,HJ2,HO_6,HB⟩:=hcut
  cases kq with
 |zero => exact absurd HA.out (by simp [bursarref13_Unkey.j0])
 |succ kj2 =>
   have H:=HA.out
   clear HA
   simp only [bursarref13_Unkey.j0] at H
   by_cases c7 : x22_2 = true
   ·subst c7
    have H1 : (some (0,(⟨#[]⟩ : ByteArray),(⟨#[]⟩ : ByteArray),2)) = some (r1,r2,r3,r4):=by rw [if_pos rfl] at H;exact H
    clear H;have H:=H1;clear H1
    simp only [Option.some.injEq,Prod.mk.injEq] at H
    obtain ⟨rfl,rfl,rfl,rfl⟩:=H
    go_wp2
    refine bodyPost_ret (results_list (rs:=[.tmp 2,.tmp 3,.tmp 4,.tmp 5]) rfl (by simp) (.tmp (.tmp (.tmp (.tmp .nil))))) rfl ?_
    exact ⟨by first|rfl|(simp [errW_none,errW_some] <;> rfl)|(simp [*,errW_none,errW_some] <;> rfl),by repeat (first|(with_reducible first|exact HB.out|apply below_alloc|apply pw_below_drewN|apply below_drew1)|exact HB.out)⟩
   replace c7:=Bool.eq_false_iff.mpr c7
   subst c7
   have H1 : (bursarref13_Unkey.l0 kj2 a0 t227 0) = some (r1,r2,r3,r4):=by rw [if_neg (show ¬ (false = true) by decide)] at H;exact H
   clear H;have H:=H1;clear H1
   have H':=Aside0.mk H
   clear H
   go_wp2
   go_loopg [8] kj2 (fun kq v8 w' => ∃ (x8_2 : Int),v8 = .int .i64 x8_2 ∧ Aside0 (bursarref13_Unkey.l0 kq a0 t227 x8_2 = some (r1,r2,r3,r4)) ∧ Aside0 (kq ≤ kj2) ∧ Aside0 (Kd.R Kd.string 9 w' w.heap.size (fun _ => True) v229 t227) ∧ Aside0 (Below w.heap.size w w'))
   case atStart => exact ⟨(0),(by first|rfl|(simp;done)|(simp [*];done)|(simp;rw [Bool.eq_iff_iff];simp;done)|(rw [Bool.eq_iff_iff];simp;done)),H',⟨Nat.le_refl _⟩,⟨by (with_reducible repeat (first|apply Kd.R_alloc|apply Kd.R_drewN|apply Kd.R_drew));exact HO_6.out⟩,⟨by repeat (first|(with_reducible first|exact HB.out|apply below_alloc|apply pw_below_drewN|apply below_drew1)|exact HB.out)⟩⟩
   case round =>
    clear H';(try clear c1);(try clear p2);(try clear c3);(try clear c5);(try clear c5b0);(try clear c5b1);(try clear c7);(try clear p2)
    obtain ⟨x8_2,rfl,HA,HK2,HO_6,HB⟩:=hrel
    cases gk with
   |zero => exact absurd HA.out (by simp [bursarref13_Unkey.l0])
   |succ k2 =>
     have H:=HA.out
     clear HA
     simp only [bursarref13_Unkey.l0] at H
     by_cases c8 : x8_2 < 5
     rotate_left
     ·rw [if_neg c8] at H
      have c8b0 : decide (x8_2 < 5) = false:=decide_eq_false c8
      clear c8
      simp only [Option.some.injEq,Prod.mk.injEq] at H
      obtain ⟨rfl,rfl,rfl,rfl⟩:=H
      go_wp2
      refine bodyPost_ret (results_list (rs:=[.tmp 2,.tmp 3,.tmp 4,.tmp 5]) rfl (by simp) (.tmp (.tmp (.tmp (.tmp .nil))))) rfl ?_
      exact ⟨by first|rfl|(simp [errW_none,errW_some] <;> rfl)|(simp [*,errW_none,errW_some] <;> rfl),by repeat (first|(with_reducible first|exact HB.out|apply below_alloc|apply pw_below_drewN|apply below_drew1)|exact HB.out)⟩
     rw [if_pos c8] at H
     have c8b0 : decide (x8_2 < 5) = true:=decide_eq_true c8
     clear c8
     by_cases c9 : 1 < (t227.length : Int)
     rotate_left
     ·rw [if_neg c9] at H
      exact absurd H (by simp)
     rw [if_pos c9] at H
     have c9b0 : decide (1 < (t227.length : Int)) = true:=decide_eq_true c9
     have c9b1 : decide (1 < t227.length) = true:=decide_eq_true (by omega)
     clear c9
     by_cases c10 : 2 < (t227.length : Int)
     rotate_left
     ·rw [if_neg c10] at H
      exact absurd H (by simp)
     rw [if_pos c10] at H
     have c10b0 : decide (2 < (t227.length : Int)) = true:=decide_eq_true c10
     have c10b1 : decide (2 < t227.length) = true:=decide_eq_true (by omega)
     clear c10
     replace H:=Option.bind_eq_some_iff.mp H
     obtain ⟨⟨t233,t234⟩,A110,H⟩:=H
     replace H : (if t234 = 0 then (if t233.toList = a0.toList then (some (x8_2,rdOf ByteArray.empty t227 1,rdOf ByteArray.empty t227 2,0)) else (bursarref13_Unkey.l0 k2 a0 t227 (wrap64 (x8_2 + 1)))) else (bursarref13_Unkey.l0 k2 a0 t227 (wrap64 (x8_2 + 1)))) = some (r1,r2,r3,r4):=H
     have A11:=Aside0.mk A110
     clear A110
     by_cases c12 : t234 = 0
     rotate_left
     ·rw [if_neg c12] at H
      have c12b0 : (t234 == 0) = false:=beq_eq_false_iff_ne.mpr c12
      have c12b1 : (t234 != 0) = true:=bne_iff_ne.mpr c12
      have H':=Aside0.mk H
      clear H
      try go_wp2
      have n0_:=Aside0.mk (Kd.R_drew HO_6.out)
      have n1_:=Aside0.mk (below_drew1 HB.out)
      clear HO_6;clear HB;have HO_6:=n0_;have HB:=n1_;clear n0_ n1_
      obtain ⟨Ao22,co22,eo22⟩:=Kd.R_slice HO_6.out
      (first|subst eo22|(injection eo22 with f1_ f2_ f3_;have f4_:=f1_.symm;have f5_:=f3_.symm;clear f1_ f2_ f3_;subst f4_;subst f5_))
      have p231 : 0 ≤ (1 : Int):=(by omega)
      have q231 : 1 < (t227.length : Int):=of_decide_eq_true (by first|(with_reducible assumption)|assumption)
      obtain ⟨ad231,e231,hx231_0⟩:=Kd.at_string (Kd.R_reads' HO_6.out).2.2 1 p231 q231
      cases e231
      (try simp only [show (1 : Int).toNat = 1 from rfl,Nat.reduceMul,Nat.reduceEqDiff,Go.Addr.add,↓reduceIte] at hx231_0)
      have qi231 : (1 < t227.length) = True:=eq_true (by omega)
      (try rw [show ((1 : Int)).toNat = 1 from rfl] at hx231_0)
      replace p231:=eq_true p231
      replace q231:=eq_true q231
      have p232 : 0 ≤ (2 : Int):=(by omega)
      have q232 : 2 < (t227.length : Int):=of_decide_eq_true (by first|(with_reducible assumption)|assumption)
      obtain ⟨ad232,e232,hx232_0⟩:=Kd.at_string (Kd.R_reads' HO_6.out).2.2 2 p232 q232
      obtain rfl : ad231 = ad232:=(by injection e232)
      (try simp only [show (2 : Int).toNat = 2 from rfl,Nat.reduceMul,Nat.reduceEqDiff,Go.Addr.add,↓reduceIte] at hx232_0)
      have qi232 : (2 < t227.length) = True:=eq_true (by omega)
      (try rw [show ((2 : Int)).toNat = 2 from rfl] at hx232_0)
      replace p232:=eq_true p232
      replace q232:=eq_true q232
      refine start_ (n:=13) (S:=fun w' => w'.cell? ⟨ad231.block,ad231.off + 1,none⟩ = some (.string (rdOf ByteArray.empty t227 1)) ∧ w'.cell? ⟨ad231.block,ad231.off + 2,none⟩ = some (.string (rdOf ByteArray.empty t227 2))) (ds:=[]) (bl 0 13) (by kernel_rfl) rfl rfl ⟨hx231_0,hx232_0⟩ (fun hHeld => ?_);refine with_tabW bursarref13_Unkey.tab7 bursarref13_Unkey.bits7 (fun HT_ HW_ => ?_)
      generalize wr.drew = w21 at HO_6 HB hx231_0 hx232_0 hHeld ⊢
      refine pure_ (i:=0) (N:=some 28) (v:=?_) (a':=?_) (bl 1 12) rfl rfl (any_of HT_.out (by kernel_rfl)) (fun _ _ _ h => h) (Or.inl ⟨by rfl,?_⟩) ?_ ?_
      rotate_left;·intro w';go_simp;with_reducible rfl
      rotate_left;·simp only [pu_];rfl
      refine pure_ (i:=1) (N:=some 29) (v:=?_) (a':=?_) (bl 2 11) rfl rfl (any_of HT_.out (by kernel_rfl)) (fun _ _ _ h => h) (Or.inl ⟨by rfl,?_⟩) ?_ ?_
      rotate_left;·intro w';go_simp;with_reducible rfl
      rotate_left;·simp only [pu_];rfl
      refine pure_ (i:=2) (N:=some 30) (v:=?_) (a':=?_) (bl 3 10) rfl rfl (any_of HT_.out (by kernel_rfl)) (fun _ _ _ h => h) (Or.inl ⟨by rfl,?_⟩) ?_ ?_
      rotate_left;·intro w';go_simp;with_reducible rfl
      rotate_left;·simp only [pu_];rfl
      refine pure_ (i:=4) (N:=some 32) (v:=?_) (a':=?_) #[true,true,true,false,true,false,false,false,false,false,false,false,false] rfl rfl (any_of HT_.out (by kernel_rfl)) (fun _ _ _ h => h) (Or.inl ⟨by rfl,?_⟩) ?_ ?_
      rotate_left;·intro w';go_simp;with_reducible rfl
      rotate_left;·simp only [pu_];rfl
      refine pure_ (i:=5) (N:=some 33) (v:=?_) (a':=?_) #[true,true,true,false,true,true,false,false,false,false,false,false,false] rfl rfl (any_of HT_.out (by kernel_rfl)) (fun _ _ _ h => h) (Or.inl ⟨by rfl,?_⟩) ?_ ?_
      rotate_left;·intro w';go_simp;with_reducible rfl
      rotate_left;·simp only [pu_];rfl
      refine take_ (i:=3) (N:=some 31) (v:=?_) (a':=?_) (bl 6 7) rfl rfl (take_ofW HT_.out HW_.out (by kernel_rfl)) (fun _ _ _ h => h) (Or.inl ⟨by rfl,?_⟩) hHeld ?_ ?_
      rotate_left
      ·rintro w' ⟨s0,s1⟩
       go_simp
       with_reducible rfl
      rotate_left
      ·simp only [pu_]
       rfl
      refine take_ (i:=6) (N:=some 34) (v:=?_) (a':=?_) (bl 7 6) rfl rfl (take_ofW HT_.out HW_.out (by kernel_rfl)) (fun _ _ _ h => h) (Or.inl ⟨by rfl,?_⟩) hHeld ?_ ?_
      rotate_left
      ·rintro w' ⟨s0,s1⟩
       go_simp
       with_reducible rfl
      rotate_left
      ·simp only [pu_]
       rfl
      refine one_ (i:=7) (N:=some 35) (bl 8 5) rfl rfl (one_of HT_.out (by kernel_rfl)) (by decide) (fun K hK => ?_)
      refine goes_ Tryd.func12 (by kernel_rfl) rfl #[.int .i64 x8_2,.string (rdOf ByteArray.empty t227 1),.string (rdOf ByteArray.empty t227 2)] (by rfl) rfl rfl (by (try simp only [List.map_toArray,List.map_cons,List.map_nil]);first|done|rfl|(simp only [List.length_drop,List.length_take];rfl)) ?_
      with_reducible refine (bursarref13_Key.calls k2 x8_2 (rdOf ByteArray.empty t227 1) (rdOf ByteArray.empty t227 2) t233 t234 _ A11.out).mono ?_
      rintro e w23 ⟨rfl,hb⟩
      have HS0_:=(hb.cell (World.block_lt_of_cell? _ _ (hHeld.1))).trans (hHeld.1)
      have HS1_:=(hb.cell (World.block_lt_of_cell? _ _ (hHeld.2))).trans (hHeld.2)
      refine ⟨_,rfl,?_⟩
      have n0_:=Aside0.mk (Kd.R_below (by (with_reducible repeat (first|apply Kd.R_alloc|apply Kd.R_drewN|apply Kd.R_drew));exact HO_6.out) hb)
      have n1_:=Aside0.mk (below_step (by repeat (first|(with_reducible first|exact HB.out|apply below_alloc|apply pw_below_drewN|apply below_drew1)|exact HB.out)) hb)
      clear HO_6;clear HB;have HO_6:=n0_;have HB:=n1_;clear n0_ n1_;(try clear hb);(try clear hb2);(try clear hk);(try clear hi)
      refine hK.out _ _ ⟨HS0_,HS1_⟩ (fun hHeld => ?_)
      clear hK K
      refine norm_ (a':=?_) ?_ ?_
      rotate_left
      ·show Act.put _ (some 35) _ = _
       simp only [pu_]
       rfl
      refine pure_ (i:=8) (N:=some 27) (v:=?_) (a':=?_) (bl 9 4) rfl rfl (any_of HT_.out (by kernel_rfl)) (fun _ _ _ h => h) (Or.inl ⟨by rfl,?_⟩) ?_ ?_
      rotate_left;·intro w';go_simp;with_reducible rfl
      rotate_left;·simp only [pu_];rfl
      refine pure_ (i:=9) (N:=some 36) (v:=?_) (a':=?_) (bl 10 3) rfl rfl (any_of HT_.out (by kernel_rfl)) (fun _ _ _ h => h) (Or.inl ⟨by rfl,?_⟩) ?_ ?_
      rotate_left;·intro w';go_simp;with_reducible rfl
      rotate_left;·simp only [pu_];rfl
      refine pure_ (i:=10) (N:=some 37) (v:=?_) (a':=?_) (bl 11 2) rfl rfl (any_of HT_.out (by kernel_rfl)) (fun _ _ _ h => h) (Or.inl ⟨by rfl,?_⟩) ?_ ?_
      rotate_left;·intro w';go_simp;with_reducible rfl
      rotate_left;·simp only [pu_];rfl
      refine pure_ (i:=11) (N:=some 9) (v:=?_) (a':=?_) (bl 12 1) rfl rfl (any_of HT_.out (by kernel_rfl)) (fun _ _ _ h => h) (Or.inl ⟨by rfl,?_⟩) ?_ ?_
      rotate_left;·intro w';go_simp;with_reducible rfl
      rotate_left;·simp only [pu_];rfl
      refine pure_ (i:=12) (N:=some 10) (v:=?_) (a':=?_) (bl 13 0) rfl rfl (any_of HT_.out (by kernel_rfl)) (fun _ _ _ h => h) (Or.inl ⟨by rfl,?_⟩) ?_ ?_
      rotate_left;·intro w';go_simp;with_reducible rfl
      rotate_left;·simp only [pu_];rfl
      refine done_ (done_of HT_.out (by kernel_rfl)) ?_
      try go_wp2
      go_roundg k2
      case measure => have:=HJ2.out;have:=HK2.out;omega
      case rel => exact ⟨(wrap64 (x8_2 + 1)),(by first|rfl|(simp;done)|(simp [*];done)|(simp;rw [Bool.eq_iff_iff];simp;done)|(rw [Bool.eq_iff_iff];simp;done)),H',⟨by have:=HJ2.out;have:=HK2.out;omega⟩,⟨by (with_reducible repeat (first|apply Kd.R_alloc|apply Kd.R_drewN|apply Kd.R_drew));exact HO_6.out⟩,⟨by repeat (first|(with_reducible first|exact HB.out|apply below_alloc|apply pw_below_drewN|apply below_drew1)|exact HB.out)⟩⟩
     rw [if_pos c12] at H
     have c12b0 : (t234 == 0) = true:=beq_iff_eq.mpr c12
     have c12b1 : (t234 != 0) = false:=bne_eq_false_iff_eq.mpr c12
     clear c12
     by_cases c13 : t233.toList = a0.toList
     rotate_left
     ·rw [if_neg c13] at H
      have c13b0 : (t233.toList == a0.toList) = false:=beq_eq_false_iff_ne.mpr c13
      have c13b1 : (t233.toList != a0.toList) = true:=bne_iff_ne.mpr c13
      have H':=Aside0.mk H
      clear H
      try go_wp2
      have n0_:=Aside0.mk (Kd.R_drew HO_6.out)
      have n1_:=Aside0.mk (below_drew1 HB.out)
      clear HO_6;clear HB;have HO_6:=n0_;have HB:=n1_;clear n0_ n1_
      obtain ⟨Ao19,co19,eo19⟩:=Kd.R_slice HO_6.out
      (first|subst eo19|(injection eo19 with f1_ f2_ f3_;have f4_:=f1_.symm;have f5_:=f3_.symm;clear f1_ f2_ f3_;subst f4_;subst f5_))
      have p231 : 0 ≤ (1 : Int):=(by omega)
      have q231 : 1 < (t227.length : Int):=of_decide_eq_true (by first|(with_reducible assumption)|assumption)
      obtain ⟨ad231,e231,hx231_0⟩:=Kd.at_string (Kd.R_reads' HO_6.out).2.2 1 p231 q231
      cases e231
      (try simp only [show (1 : Int).toNat = 1 from rfl,Nat.reduceMul,Nat.reduceEqDiff,Go.Addr.add,↓reduceIte] at hx231_0)
      have qi231 : (1 < t227.length) = True:=eq_true (by omega)
      (try rw [show ((1 : Int)).toNat = 1 from rfl] at hx231_0)
      replace p231:=eq_true p231
      replace q231:=eq_true q231
      have p232 : 0 ≤ (2 : Int):=(by omega)
      have q232 : 2 < (t227.length : Int):=of_decide_eq_true (by first|(with_reducible assumption)|assumption)
      obtain ⟨ad232,e232,hx232_0⟩:=Kd.at_string (Kd.R_reads' HO_6.out).2.2 2 p232 q232
      obtain rfl : ad231 = ad232:=(by injection e232)
      (try simp only [show (2 : Int).toNat = 2 from rfl,Nat.reduceMul,Nat.reduceEqDiff,Go.Addr.add,↓reduceIte] at hx232_0)
      have qi232 : (2 < t227.length) = True:=eq_true (by omega)
      (try rw [show ((2 : Int)).toNat = 2 from rfl] at hx232_0)
      replace p232:=eq_true p232
      replace q232:=eq_true q232
      refine start_ (n:=13) (S:=fun w' => w'.cell? ⟨ad231.block,ad231.off + 1,none⟩ = some (.string (rdOf ByteArray.empty t227 1)) ∧ w'.cell? ⟨ad231.block,ad231.off + 2,none⟩ = some (.string (rdOf ByteArray.empty t227 2))) (ds:=[]) (bl 0 13) (by kernel_rfl) rfl rfl ⟨hx231_0,hx232_0⟩ (fun hHeld => ?_);refine with_tabW bursarref13_Unkey.tab7 bursarref13_Unkey.bits7 (fun HT_ HW_ => ?_)
      generalize wr.drew = w18 at HO_6 HB hx231_0 hx232_0 hHeld ⊢
      refine pure_ (i:=0) (N:=some 28) (v:=?_) (a':=?_) (bl 1 12) rfl rfl (any_of HT_.out (by kernel_rfl)) (fun _ _ _ h => h) (Or.inl ⟨by rfl,?_⟩) ?_ ?_
      rotate_left;·intro w';go_simp;with_reducible rfl
      rotate_left;·simp only [pu_];rfl
      refine pure_ (i:=1) (N:=some 29) (v:=?_) (a':=?_) (bl 2 11) rfl rfl (any_of HT_.out (by kernel_rfl)) (fun _ _ _ h => h) (Or.inl ⟨by rfl,?_⟩) ?_ ?_
      rotate_left;·intro w';go_simp;with_reducible rfl
      rotate_left;·simp only [pu_];rfl
      refine pure_ (i:=2) (N:=some 30) (v:=?_) (a':=?_) (bl 3 10) rfl rfl (any_of HT_.out (by kernel_rfl)) (fun _ _ _ h => h) (Or.inl ⟨by rfl,?_⟩) ?_ ?_
      rotate_left;·intro w';go_simp;with_reducible rfl
      rotate_left;·simp only [pu_];rfl
      refine pure_ (i:=4) (N:=some 32) (v:=?_) (a':=?_) #[true,true,true,false,true,false,false,false,false,false,false,false,false] rfl rfl (any_of HT_.out (by kernel_rfl)) (fun _ _ _ h => h) (Or.inl ⟨by rfl,?_⟩) ?_ ?_
      rotate_left;·intro w';go_simp;with_reducible rfl
      rotate_left;·simp only [pu_];rfl
      refine pure_ (i:=5) (N:=some 33) (v:=?_) (a':=?_) #[true,true,true,false,true,true,false,false,false,false,false,false,false] rfl rfl (any_of HT_.out (by kernel_rfl)) (fun _ _ _ h => h) (Or.inl ⟨by rfl,?_⟩) ?_ ?_
      rotate_left;·intro w';go_simp;with_reducible rfl
      rotate_left;·simp only [pu_];rfl
      refine take_ (i:=3) (N:=some 31) (v:=?_) (a':=?_) (bl 6 7) rfl rfl (take_ofW HT_.out HW_.out (by kernel_rfl)) (fun _ _ _ h => h) (Or.inl ⟨by rfl,?_⟩) hHeld ?_ ?_
      rotate_left
      ·rintro w' ⟨s0,s1⟩
       go_simp
       with_reducible rfl
      rotate_left
      ·simp only [pu_]
       rfl
      refine take_ (i:=6) (N:=some 34) (v:=?_) (a':=?_) (bl 7 6) rfl rfl (take_ofW HT_.out HW_.out (by kernel_rfl)) (fun _ _ _ h => h) (Or.inl ⟨by rfl,?_⟩) hHeld ?_ ?_
      rotate_left
      ·rintro w' ⟨s0,s1⟩
       go_simp
       with_reducible rfl
      rotate_left
      ·simp only [pu_]
       rfl
      refine one_ (i:=7) (N:=some 35) (bl 8 5) rfl rfl (one_of HT_.out (by kernel_rfl)) (by decide) (fun K hK => ?_)
      refine goes_ Tryd.func12 (by kernel_rfl) rfl #[.int .i64 x8_2,.string (rdOf ByteArray.empty t227 1),.string (rdOf ByteArray.empty t227 2)] (by rfl) rfl rfl (by (try simp only [List.map_toArray,List.map_cons,List.map_nil]);first|done|rfl|(simp only [List.length_drop,List.length_take];rfl)) ?_
      with_reducible refine (bursarref13_Key.calls k2 x8_2 (rdOf ByteArray.empty t227 1) (rdOf ByteArray.empty t227 2) t233 t234 _ A11.out).mono ?_
      rintro e w20 ⟨rfl,hb⟩
      have HS0_:=(hb.cell (World.block_lt_of_cell? _ _ (hHeld.1))).trans (hHeld.1)
      have HS1_:=(hb.cell (World.block_lt_of_cell? _ _ (hHeld.2))).trans (hHeld.2)
      refine ⟨_,rfl,?_⟩
      have n0_:=Aside0.mk (Kd.R_below (by (with_reducible repeat (first|apply Kd.R_alloc|apply Kd.R_drewN|apply Kd.R_drew));exact HO_6.out) hb)
      have n1_:=Aside0.mk (below_step (by repeat (first|(with_reducible first|exact HB.out|apply below_alloc|apply pw_below_drewN|apply below_drew1)|exact HB.out)) hb)
      clear HO_6;clear HB;have HO_6:=n0_;have HB:=n1_;clear n0_ n1_;(try clear hb);(try clear hb2);(try clear hk);(try clear hi)
      refine hK.out _ _ ⟨HS0_,HS1_⟩ (fun hHeld => ?_)
      clear hK K
      refine norm_ (a':=?_) ?_ ?_
      rotate_left
      ·show Act.put _ (some 35) _ = _
       simp only [pu_]
       rfl
      refine pure_ (i:=8) (N:=some 27) (v:=?_) (a':=?_) (bl 9 4) rfl rfl (any_of HT_.out (by kernel_rfl)) (fun _ _ _ h => h) (Or.inl ⟨by rfl,?_⟩) ?_ ?_
      rotate_left;·intro w';go_simp;with_reducible rfl
      rotate_left;·simp only [pu_];rfl
      refine pure_ (i:=9) (N:=some 36) (v:=?_) (a':=?_) (bl 10 3) rfl rfl (any_of HT_.out (by kernel_rfl)) (fun _ _ _ h => h) (Or.inl ⟨by rfl,?_⟩) ?_ ?_
      rotate_left;·intro w';go_simp;with_reducible rfl
      rotate_left;·simp only [pu_];rfl
      refine pure_ (i:=10) (N:=some 37) (v:=?_) (a':=?_) (bl 11 2) rfl rfl (any_of HT_.out (by kernel_rfl)) (fun _ _ _ h => h) (Or.inl ⟨by rfl,?_⟩) ?_ ?_
      rotate_left;·intro w';go_simp;with_reducible rfl
      rotate_left;·simp only [pu_];rfl
      refine pure_ (i:=11) (N:=some 9) (v:=?_) (a':=?_) (bl 12 1) rfl rfl (any_of HT_.out (by kernel_rfl)) (fun _ _ _ h => h) (Or.inl ⟨by rfl,?_⟩) ?_ ?_
      rotate_left;·intro w';go_simp;with_reducible rfl
      rotate_left;·simp only [pu_];rfl
      refine pure_ (i:=12) (N:=some 10) (v:=?_) (a':=?_) (bl 13 0) rfl rfl (any_of HT_.out (by kernel_rfl)) (fun _ _ _ h => h) (Or.inl ⟨by rfl,?_⟩) ?_ ?_
      rotate_left;·intro w';go_simp;with_reducible rfl
      rotate_left;·simp only [pu_];rfl
      refine done_ (done_of HT_.out (by kernel_rfl)) ?_
      try go_wp2
      go_roundg k2
      case measure => have:=HJ2.out;have:=HK2.out;omega
      case rel => exact ⟨(wrap64 (x8_2 + 1)),(by first|rfl|(simp;done)|(simp [*];done)|(simp;rw [Bool.eq_iff_iff];simp;done)|(rw [Bool.eq_iff_iff];simp;done)),H',⟨by have:=HJ2.out;have:=HK2.out;omega⟩,⟨by (with_reducible repeat (first|apply Kd.R_alloc|apply Kd.R_drewN|apply Kd.R_drew));exact HO_6.out⟩,⟨by repeat (first|(with_reducible first|exact HB.out|apply below_alloc|apply pw_below_drewN|apply below_drew1)|exact HB.out)⟩⟩
     rw [if_pos c13] at H
     have c13b0 : (t233.toList == a0.toList) = true:=beq_iff_eq.mpr c13
     have c13b1 : (t233.toList != a0.toList) = false:=bne_eq_false_iff_eq.mpr c13
     clear c13
     simp only [Option.some.injEq,Prod.mk.injEq] at H
     obtain ⟨rfl,rfl,rfl,rfl⟩:=H
     try go_wp2
     have n0_:=Aside0.mk (Kd.R_drew HO_6.out)
     have n1_:=Aside0.mk (below_drew1 HB.out)
     clear HO_6;clear HB;have HO_6:=n0_;have HB:=n1_;clear n0_ n1_
     obtain ⟨Ao15,co15,eo15⟩:=Kd.R_slice HO_6.out
     (first|subst eo15|(injection eo15 with f1_ f2_ f3_;have f4_:=f1_.symm;have f5_:=f3_.symm;clear f1_ f2_ f3_;subst f4_;subst f5_))
     have p231 : 0 ≤ (1 : Int):=(by omega)
     have q231 : 1 < (t227.length : Int):=of_decide_eq_true (by first|(with_reducible assumption)|assumption)
     obtain ⟨ad231,e231,hx231_0⟩:=Kd.at_string (Kd.R_reads' HO_6.out).2.2 1 p231 q231
     cases e231
     (try simp only [show (1 : Int).toNat = 1 from rfl,Nat.reduceMul,Nat.reduceEqDiff,Go.Addr.add,↓reduceIte] at hx231_0)
     have qi231 : (1 < t227.length) = True:=eq_true (by omega)
     (try rw [show ((1 : Int)).toNat = 1 from rfl] at hx231_0)
     replace p231:=eq_true p231
     replace q231:=eq_true q231
     have p232 : 0 ≤ (2 : Int):=(by omega)
     have q232 : 2 < (t227.length : Int):=of_decide_eq_true (by first|(with_reducible assumption)|assumption)
     obtain ⟨ad232,e232,hx232_0⟩:=Kd.at_string (Kd.R_reads' HO_6.out).2.2 2 p232 q232
     obtain rfl : ad231 = ad232:=(by injection e232)
     (try simp only [show (2 : Int).toNat = 2 from rfl,Nat.reduceMul,Nat.reduceEqDiff,Go.Addr.add,↓reduceIte] at hx232_0)
     have qi232 : (2 < t227.length) = True:=eq_true (by omega)
     (try rw [show ((2 : Int)).toNat = 2 from rfl] at hx232_0)
     replace p232:=eq_true p232
     replace q232:=eq_true q232
     refine start_ (n:=13) (S:=fun w' => w'.cell? ⟨ad231.block,ad231.off + 1,none⟩ = some (.string (rdOf ByteArray.empty t227 1)) ∧ w'.cell? ⟨ad231.block,ad231.off + 2,none⟩ = some (.string (rdOf ByteArray.empty t227 2))) (ds:=[]) (bl 0 13) (by kernel_rfl) rfl rfl ⟨hx231_0,hx232_0⟩ (fun hHeld => ?_);refine with_tabW bursarref13_Unkey.tab7 bursarref13_Unkey.bits7 (fun HT_ HW_ => ?_)
     generalize wr.drew = w14 at HO_6 HB hx231_0 hx232_0 hHeld ⊢
     refine pure_ (i:=0) (N:=some 28) (v:=?_) (a':=?_) (bl 1 12) rfl rfl (any_of HT_.out (by kernel_rfl)) (fun _ _ _ h => h) (Or.inl ⟨by rfl,?_⟩) ?_ ?_
     rotate_left;·intro w';go_simp;with_reducible rfl
     rotate_left;·simp only [pu_];rfl
     refine pure_ (i:=1) (N:=some 29) (v:=?_) (a':=?_) (bl 2 11) rfl rfl (any_of HT_.out (by kernel_rfl)) (fun _ _ _ h => h) (Or.inl ⟨by rfl,?_⟩) ?_ ?_
     rotate_left;·intro w';go_simp;with_reducible rfl
     rotate_left;·simp only [pu_];rfl
     refine pure_ (i:=2) (N:=some 30) (v:=?_) (a':=?_) (bl 3 10) rfl rfl (any_of HT_.out (by kernel_rfl)) (fun _ _ _ h => h) (Or.inl ⟨by rfl,?_⟩) ?_ ?_
     rotate_left;·intro w';go_simp;with_reducible rfl
     rotate_left;·simp only [pu_];rfl
     refine pure_ (i:=4) (N:=some 32) (v:=?_) (a':=?_) #[true,true,true,false,true,false,false,false,false,false,false,false,false] rfl rfl (any_of HT_.out (by kernel_rfl)) (fun _ _ _ h => h) (Or.inl ⟨by rfl,?_⟩) ?_ ?_
     rotate_left;·intro w';go_simp;with_reducible rfl
     rotate_left;·simp only [pu_];rfl
     refine pure_ (i:=5) (N:=some 33) (v:=?_) (a':=?_) #[true,true,true,false,true,true,false,false,false,false,false,false,false] rfl rfl (any_of HT_.out (by kernel_rfl)) (fun _ _ _ h => h) (Or.inl ⟨by rfl,?_⟩) ?_ ?_
     rotate_left;·intro w';go_simp;with_reducible rfl
     rotate_left;·simp only [pu_];rfl
     refine take_ (i:=3) (N:=some 31) (v:=?_) (a':=?_) (bl 6 7) rfl rfl (take_ofW HT_.out HW_.out (by kernel_rfl)) (fun _ _ _ h => h) (Or.inl ⟨by rfl,?_⟩) hHeld ?_ ?_
     rotate_left
     ·rintro w' ⟨s0,s1⟩
      go_simp
      with_reducible rfl
     rotate_left
     ·simp only [pu_]
      rfl
     refine take_ (i:=6) (N:=some 34) (v:=?_) (a':=?_) (bl 7 6) rfl rfl (take_ofW HT_.out HW_.out (by kernel_rfl)) (fun _ _ _ h => h) (Or.inl ⟨by rfl,?_⟩) hHeld ?_ ?_
     rotate_left
     ·rintro w' ⟨s0,s1⟩
      go_simp
      with_reducible rfl
     rotate_left
     ·simp only [pu_]
      rfl
     refine one_ (i:=7) (N:=some 35) (bl 8 5) rfl rfl (one_of HT_.out (by kernel_rfl)) (by decide) (fun K hK => ?_)
     refine goes_ Tryd.func12 (by kernel_rfl) rfl #[.int .i64 x8_2,.string (rdOf ByteArray.empty t227 1),.string (rdOf ByteArray.empty t227 2)] (by rfl) rfl rfl (by (try simp only [List.map_toArray,List.map_cons,List.map_nil]);first|done|rfl|(simp only [List.length_drop,List.length_take];rfl)) ?_
     with_reducible refine (bursarref13_Key.calls k2 x8_2 (rdOf ByteArray.empty t227 1) (rdOf ByteArray.empty t227 2) t233 t234 _ A11.out).mono ?_
     rintro e w16 ⟨rfl,hb⟩
     have HS0_:=(hb.cell (World.block_lt_of_cell? _ _ (hHeld.1))).trans (hHeld.1)
     have HS1_:=(hb.cell (World.block_lt_of_cell? _ _ (hHeld.2))).trans (hHeld.2)
     refine ⟨_,rfl,?_⟩
     have n0_:=Aside0.mk (Kd.R_below (by (with_reducible repeat (first|apply Kd.R_alloc|apply Kd.R_drewN|apply Kd.R_drew));exact HO_6.out) hb)
     have n1_:=Aside0.mk (below_step (by repeat (first|(with_reducible first|exact HB.out|apply below_alloc|apply pw_below_drewN|apply below_drew1)|exact HB.out)) hb)
     clear HO_6;clear HB;have HO_6:=n0_;have HB:=n1_;clear n0_ n1_;(try clear hb);(try clear hb2);(try clear hk);(try clear hi)
     refine hK.out _ _ ⟨HS0_,HS1_⟩ (fun hHeld => ?_)
     clear hK K
     refine norm_ (a':=?_) ?_ ?_
     rotate_left
     ·show Act.put _ (some 35) _ = _
      simp only [pu_]
      rfl
     refine pure_ (i:=8) (N:=some 27) (v:=?_) (a':=?_) (bl 9 4) rfl rfl (any_of HT_.out (by kernel_rfl)) (fun _ _ _ h => h) (Or.inl ⟨by rfl,?_⟩) ?_ ?_
     rotate_left;·intro w';go_simp;with_reducible rfl
     rotate_left;·simp only [pu_];rfl
     refine pure_ (i:=9) (N:=some 36) (v:=?_) (a':=?_) (bl 10 3) rfl rfl (any_of HT_.out (by kernel_rfl)) (fun _ _ _ h => h) (Or.inl ⟨by rfl,?_⟩) ?_ ?_
     rotate_left;·intro w';go_simp;with_reducible rfl
     rotate_left;·simp only [pu_];rfl
     refine pure_ (i:=10) (N:=some 37) (v:=?_) (a':=?_) (bl 11 2) rfl rfl (any_of HT_.out (by kernel_rfl)) (fun _ _ _ h => h) (Or.inl ⟨by rfl,?_⟩) ?_ ?_
     rotate_left;·intro w';go_simp;with_reducible rfl
     rotate_left;·simp only [pu_];rfl
     refine pure_ (i:=11) (N:=some 9) (v:=?_) (a':=?_) (bl 12 1) rfl rfl (any_of HT_.out (by kernel_rfl)) (fun _ _ _ h => h) (Or.inl ⟨by rfl,?_⟩) ?_ ?_
     rotate_left;·intro w';go_simp;with_reducible rfl
     rotate_left;·simp only [pu_];rfl
     refine pure_ (i:=12) (N:=some 10) (v:=?_) (a':=?_) (bl 13 0) rfl rfl (any_of HT_.out (by kernel_rfl)) (fun _ _ _ h => h) (Or.inl ⟨by rfl,?_⟩) ?_ ?_
     rotate_left;·intro w';go_simp;with_reducible rfl
     rotate_left;·simp only [pu_];rfl
     refine done_ (done_of HT_.out (by kernel_rfl)) ?_
     try go_wp2
     have n0_:=Aside0.mk (Kd.R_drew HO_6.out)
     have n1_:=Aside0.mk (below_drew1 HB.out)
     clear HO_6;clear HB;have HO_6:=n0_;have HB:=n1_;clear n0_ n1_
     have p235 : 0 ≤ (1 : Int):=(by omega)
     have q235 : 1 < (t227.length : Int):=of_decide_eq_true (by first|(with_reducible assumption)|assumption)
     obtain ⟨ad235,e235,hx235_0⟩:=Kd.at_string (Kd.R_reads' HO_6.out).2.2 1 p235 q235
     obtain rfl : ad231 = ad235:=(by injection e235)
     (try simp only [show (1 : Int).toNat = 1 from rfl,Nat.reduceMul,Nat.reduceEqDiff,Go.Addr.add,↓reduceIte] at hx235_0)
     have qi235 : (1 < t227.length) = True:=eq_true (by omega)
     (try rw [show ((1 : Int)).toNat = 1 from rfl] at hx235_0)
     replace p235:=eq_true p235
     replace q235:=eq_true q235
     have p236 : 0 ≤ (2 : Int):=(by omega)
     have q236 : 2 < (t227.length : Int):=of_decide_eq_true (by first|(with_reducible assumption)|assumption)
     obtain ⟨ad236,e236,hx236_0⟩:=Kd.at_string (Kd.R_reads' HO_6.out).2.2 2 p236 q236
     obtain rfl : ad231 = ad236:=(by injection e236)
     (try simp only [show (2 : Int).toNat = 2 from rfl,Nat.reduceMul,Nat.reduceEqDiff,Go.Addr.add,↓reduceIte] at hx236_0)
     have qi236 : (2 < t227.length) = True:=eq_true (by omega)
     (try rw [show ((2 : Int)).toNat = 2 from rfl] at hx236_0)
     replace p236:=eq_true p236
     replace q236:=eq_true q236
     refine start_ (n:=11) (S:=fun w' => w'.cell? ⟨ad231.block,ad231.off + 1,none⟩ = some (.string (rdOf ByteArray.empty t227 1)) ∧ w'.cell? ⟨ad231.block,ad231.off + 2,none⟩ = some (.string (rdOf ByteArray.empty t227 2))) (ds:=[]) #[false,false,false,false,false,false,false,false,false,false,false] (by kernel_rfl) rfl rfl ⟨hx235_0,hx236_0⟩ (fun hHeld => ?_);refine with_tabW bursarref13_Unkey.tab9 bursarref13_Unkey.bits9 (fun HT_ HW_ => ?_)
     generalize w16.drew = w17 at HO_6 HB hx235_0 hx236_0 hHeld ⊢
     refine pure_ (i:=0) (N:=some 45) (v:=?_) (a':=?_) #[true,false,false,false,false,false,false,false,false,false,false] rfl rfl (any_of HT_.out (by kernel_rfl)) (fun _ _ _ h => h) (Or.inl ⟨by rfl,?_⟩) ?_ ?_
     rotate_left;·intro w';go_simp;with_reducible rfl
     rotate_left;·simp only [pu_];rfl
     refine pure_ (i:=1) (N:=some 46) (v:=?_) (a':=?_) #[true,true,false,false,false,false,false,false,false,false,false] rfl rfl (any_of HT_.out (by kernel_rfl)) (fun _ _ _ h => h) (Or.inl ⟨by rfl,?_⟩) ?_ ?_
     rotate_left;·intro w';go_simp;with_reducible rfl
     rotate_left;·simp only [pu_];rfl
     refine pure_ (i:=2) (N:=some 47) (v:=?_) (a':=?_) #[true,true,true,false,false,false,false,false,false,false,false] rfl rfl (any_of HT_.out (by kernel_rfl)) (fun _ _ _ h => h) (Or.inl ⟨by rfl,?_⟩) ?_ ?_
     rotate_left;·intro w';go_simp;with_reducible rfl
     rotate_left;·simp only [pu_];rfl
     refine pure_ (i:=4) (N:=some 49) (v:=?_) (a':=?_) #[true,true,true,false,true,false,false,false,false,false,false] rfl rfl (any_of HT_.out (by kernel_rfl)) (fun _ _ _ h => h) (Or.inl ⟨by rfl,?_⟩) ?_ ?_
     rotate_left;·intro w';go_simp;with_reducible rfl
     rotate_left;·simp only [pu_];rfl
     refine pure_ (i:=5) (N:=some 50) (v:=?_) (a':=?_) #[true,true,true,false,true,true,false,false,false,false,false] rfl rfl (any_of HT_.out (by kernel_rfl)) (fun _ _ _ h => h) (Or.inl ⟨by rfl,?_⟩) ?_ ?_
     rotate_left;·intro w';go_simp;with_reducible rfl
     rotate_left;·simp only [pu_];rfl
     refine pure_ (i:=7) (N:=some 2) (v:=?_) (a':=?_) #[true,true,true,false,true,true,false,true,false,false,false] rfl rfl (any_of HT_.out (by kernel_rfl)) (fun _ _ _ h => h) (Or.inl ⟨by rfl,?_⟩) ?_ ?_
     rotate_left;·intro w';go_simp;with_reducible rfl
     rotate_left;·simp only [pu_];rfl
     refine take_ (i:=3) (N:=some 48) (v:=?_) (a':=?_) #[true,true,true,true,true,true,false,true,false,false,false] rfl rfl (take_ofW HT_.out HW_.out (by kernel_rfl)) (fun _ _ _ h => h) (Or.inl ⟨by rfl,?_⟩) hHeld ?_ ?_
     rotate_left
     ·rintro w' ⟨s0,s1⟩
      go_simp
      with_reducible rfl
     rotate_left
     ·simp only [pu_]
      rfl
     refine pure_ (i:=8) (N:=some 3) (v:=?_) (a':=?_) #[true,true,true,true,true,true,false,true,true,false,false] rfl rfl (any_of HT_.out (by kernel_rfl)) (fun _ _ _ h => h) (Or.inl ⟨by rfl,?_⟩) ?_ ?_
     rotate_left;·intro w';go_simp;with_reducible rfl
     rotate_left;·simp only [pu_];rfl
     refine take_ (i:=6) (N:=some 51) (v:=?_) (a':=?_) #[true,true,true,true,true,true,true,true,true,false,false] rfl rfl (take_ofW HT_.out HW_.out (by kernel_rfl)) (fun _ _ _ h => h) (Or.inl ⟨by rfl,?_⟩) hHeld ?_ ?_
     rotate_left
     ·rintro w' ⟨s0,s1⟩
      go_simp
      with_reducible rfl
     rotate_left
     ·simp only [pu_]
      rfl
     refine pure_ (i:=9) (N:=some 4) (v:=?_) (a':=?_) #[true,true,true,true,true,true,true,true,true,true,false] rfl rfl (any_of HT_.out (by kernel_rfl)) (fun _ _ _ h => h) (Or.inl ⟨by rfl,?_⟩) ?_ ?_
     rotate_left;·intro w';go_simp;with_reducible rfl
     rotate_left;·simp only [pu_];rfl
     refine pure_ (i:=10) (N:=some 5) (v:=?_) (a':=?_) #[true,true,true,true,true,true,true,true,true,true,true] rfl rfl (any_of HT_.out (by kernel_rfl)) (fun _ _ _ h => h) (Or.inl ⟨by rfl,?_⟩) ?_ ?_
     rotate_left;·intro w';go_simp;with_reducible rfl
     rotate_left;·simp only [pu_];rfl
     refine done_ (done_of HT_.out (by kernel_rfl)) ?_
     try go_wp2
     refine bodyPost_ret (results_list (rs:=[.tmp 2,.tmp 3,.tmp 4,.tmp 5]) rfl (by simp) (.tmp (.tmp (.tmp (.tmp .nil))))) rfl ?_
     exact ⟨by first|rfl|(simp [errW_none,errW_some] <;> rfl)|(simp [*,errW_none,errW_some] <;> rfl),by repeat (first|(with_reducible first|exact HB.out|apply below_alloc|apply pw_below_drewN|apply below_drew1)|exact HB.out)⟩
end Go.Proofs.YtniolbolfclhkaaDoor.Q
namespace Go.Proofs.YtniolbolfclhkaaDoor.Q
open Go.RowKit Go.Proofs.YtniolbolfclhkaaDoorW.PrintWords Go.Proofs.YtniolbolfclhkaaDoorW.PrintLast Go.Proofs.YtniolbolfclhkaaDoorW.PrintMore
attribute [local go_sem] max2_int min2_int max_two min_two max_three min_three max_four min_four   -- for this text's walks alone
set_option linter.unusedVariables false
set_option linter.unusedSimpArgs false
def bursarlaw13_ObjectKeys.f (k : Nat) (a0 : Int) (a1 : ByteArray) (a2 : ByteArray) (a3 : ByteArray) : Option (Bool) := (bursarlaw13_fixed.f).bind fun t237 => (if t237 = true then ((object_Key.f a0 a1 a2).bind fun bt238 => ((bursarref13_Key.f k a0 a1 a2).bind fun bt240 => ((object_Unkey.f k a3).bind fun bt242 => ((bursarref13_Unkey.f k a3).bind fun bt246 => (if bt238.1.toList = bt240.1.toList then (if bt238.2 = bt240.2 then (if bt242.1 = bt246.1 then (if bt242.2.1.toList = bt246.2.1.toList then (if bt242.2.2.1.toList = bt246.2.2.1.toList then (some (bt242.2.2.2 == bt246.2.2.2)) else (some false)) else (some false)) else (some false)) else (some false)) else (some false)))))) else (some false))
theorem bursarlaw13_ObjectKeys.mono : ∀ a0 a1 a2 a3 k, LeO (bursarlaw13_ObjectKeys.f k a0 a1 a2 a3) (bursarlaw13_ObjectKeys.f (k + 1) a0 a1 a2 a3) := by
 intro a0 a1 a2 a3 k
 unfold bursarlaw13_ObjectKeys.f
 repeat' first
  |(with_reducible exact bursarref13_Key.mono _ _ _ _)
  |(with_reducible exact bursarref13_Unkey.mono _ _)
  |(with_reducible exact object_Unkey.mono _ _)
  |(with_reducible exact LeO.refl _)
  |(with_reducible exact LeO.none _)
  |(with_reducible refine LeO.ite ?_ ?_)
  |(with_reducible refine LeO.bind ?_ (fun _ => ?_))
  |exact bursarref13_Key.mono _ _ _ _
  |exact bursarref13_Unkey.mono _ _
  |exact object_Unkey.mono _ _
  |exact LeO.none _
  |refine LeO.ite ?_ ?_
  |refine LeO.bind ?_ (fun _ => ?_)
set_option maxHeartbeats 8000000 in
set_option maxRecDepth 100000 in
theorem bursarlaw13_ObjectKeys.calls (k : Nat) (a0 : Int) (a1 : ByteArray) (a2 : ByteArray) (a3 : ByteArray) (r : Bool) (w : World) (h : bursarlaw13_ObjectKeys.f k a0 a1 a2 a3 = some r) (hG : Glob w) :
  Calls Tryd.prog 4 #[.int .i64 a0,.string a1,.string a2,.string a3] w fun e w' => e = .returned (.bool r) ∧ Below w.heap.size w w':=by
 have HB:=Aside0.mk (Below.refl w.heap.size w)
 have H : ((bursarlaw13_fixed.f).bind fun t237 => (if t237 = true then ((object_Key.f a0 a1 a2).bind fun bt238 => ((bursarref13_Key.f k a0 a1 a2).bind fun bt240 => ((object_Unkey.f k a3).bind fun bt242 => ((bursarref13_Unkey.f k a3).bind fun bt246 => (if bt238.1.toList = bt240.1.toList then (if bt238.2 = bt240.2 then (if bt242.1 = bt246.1 then (if bt242.2.1.toList = bt246.2.1.toList then (if bt242.2.2.1.toList = bt246.2.2.1.toList then (some (bt242.2.2.2 == bt246.2.2.2)) else (some false)) else (some false)) else (some false)) else (some false)) else (some false)))))) else (some false))) = some r:=h
 clear h
 replace H:=Option.bind_eq_some_iff.mp H
 obtain ⟨t237,A50,H⟩:=H
 replace H : (if t237 = true then ((object_Key.f a0 a1 a2).bind fun bt238 => ((bursarref13_Key.f k a0 a1 a2).bind fun bt240 => ((object_Unkey.f k a3).bind fun bt242 => ((bursarref13_Unkey.f k a3).bind fun bt246 => (if bt238.1.toList = bt240.1.toList then (if bt238.2 = bt240.2 then (if bt242.1 = bt246.1 then (if bt242.2.1.toList = bt246.2.1.toList then (if bt242.2.2.1.toList = bt246.2.2.1.toList then (some (bt242.2.2.2 == bt246.2.2.2)) else (some false)) else (some false)) else (some false)) else (some false)) else (some false)))))) else (some false)) = some r:=H
 have A5:=Aside0.mk A50
 clear A50
 by_cases c6 : t237 = true
 rotate_left
 ·replace c6:=Bool.eq_false_iff.mpr c6
  subst c6
  have H1 : (some false) = some r:=by rw [if_neg (show ¬ (false = true) by decide)] at H;exact H
  clear H;have H:=H1;clear H1
  obtain rfl:=Option.some.inj H
  go_enter Tryd.func4,Tryd.ntmps4
  go_wp2_with (first|((with_reducible refine gate_callee (f:=6) rfl ?_);refine goesL_ (some 22) rfl rfl Tryd.func6 (by kernel_rfl) rfl #[] rfl (by (try simp only [List.map_toArray,List.map_cons,List.map_nil]);first|done|rfl|(simp only [List.length_drop,List.length_take];rfl)) ?_;(with_reducible refine (bursarlaw13_fixed.calls  false _ A5.out (Glob.below hG (by repeat (first|(with_reducible first|exact HB.out|apply below_alloc|apply pw_below_drewN|apply below_drew1)|exact HB.out)))).mono ?_);rintro e w46 ⟨rfl,hb⟩;refine ⟨_,rfl,?_⟩;have n0_:=Aside0.mk (below_step (by repeat (first|(with_reducible first|exact HB.out|apply below_alloc|apply pw_below_drewN|apply below_drew1)|exact HB.out)) hb);clear HB;have HB:=n0_;clear n0_;(try clear hb);(try clear hb2);(try clear hk);(try clear hi)))
  go_ret
  exact ⟨by first|rfl|(simp [errW_none,errW_some] <;> rfl)|(simp [*,errW_none,errW_some] <;> rfl),by repeat (first|(with_reducible first|exact HB.out|apply below_alloc|apply pw_below_drewN|apply below_drew1)|exact HB.out)⟩
 subst c6
 have H1 : ((object_Key.f a0 a1 a2).bind fun bt238 => ((bursarref13_Key.f k a0 a1 a2).bind fun bt240 => ((object_Unkey.f k a3).bind fun bt242 => ((bursarref13_Unkey.f k a3).bind fun bt246 => (if bt238.1.toList = bt240.1.toList then (if bt238.2 = bt240.2 then (if bt242.1 = bt246.1 then (if bt242.2.1.toList = bt246.2.1.toList then (if bt242.2.2.1.toList = bt246.2.2.1.toList then (some (bt242.2.2.2 == bt246.2.2.2)) else (some false)) else (some false)) else (some false)) else (some false)) else (some false)))))) = some r:=by rw [if_pos rfl] at H;exact H
 clear H;have H:=H1;clear H1
 replace H:=Option.bind_eq_some_iff.mp H
 obtain ⟨⟨t238,t239⟩,A70,H⟩:=H
 replace H : ((bursarref13_Key.f k a0 a1 a2).bind fun bt240 => ((object_Unkey.f k a3).bind fun bt242 => ((bursarref13_Unkey.f k a3).bind fun bt246 => (if t238.toList = bt240.1.toList then (if t239 = bt240.2 then (if bt242.1 = bt246.1 then (if bt242.2.1.toList = bt246.2.1.toList then (if bt242.2.2.1.toList = bt246.2.2.1.toList then (some (bt242.2.2.2 == bt246.2.2.2)) else (some false)) else (some false)) else (some false)) else (some false)) else (some false))))) = some r:=H
 have A7:=Aside0.mk A70
 clear A70
 replace H:=Option.bind_eq_some_iff.mp H
 obtain ⟨⟨t240,t241⟩,A80,H⟩:=H
 replace H : ((object_Unkey.f k a3).bind fun bt242 => ((bursarref13_Unkey.f k a3).bind fun bt246 => (if t238.toList = t240.toList then (if t239 = t241 then (if bt242.1 = bt246.1 then (if bt242.2.1.toList = bt246.2.1.toList then (if bt242.2.2.1.toList = bt246.2.2.1.toList then (some (bt242.2.2.2 == bt246.2.2.2)) else (some false)) else (some false)) else (some false)) else (some false)) else (some false)))) = some r:=H
 have A8:=Aside0.mk A80
 clear A80
 replace H:=Option.bind_eq_some_iff.mp H
 obtain ⟨⟨t242,t243,t244,t245⟩,A90,H⟩:=H
 replace H : ((bursarref13_Unkey.f k a3).bind fun bt246 => (if t238.toList = t240.toList then (if t239 = t241 then (if t242 = bt246.1 then (if t243.toList = bt246.2.1.toList then (if t244.toList = bt246.2.2.1.toList then (some (t245 == bt246.2.2.2)) else (some false)) else (some false)) else (some false)) else (some false)) else (some false))) = some r:=H
 have A9:=Aside0.mk A90
 clear A90
 replace H:=Option.bind_eq_some_iff.mp H
 obtain ⟨⟨t246,t247,t248,t249⟩,A100,H⟩:=H
 replace H : (if t238.toList = t240.toList then (if t239 = t241 then (if t242 = t246 then (if t243.toList = t247.toList then (if t244.toList = t248.toList then (some (t245 == t249)) else (some false)) else (some false)) else (some false)) else (some false)) else (some false)) = some r:=H
 have A10:=Aside0.mk A100
 clear A100
 by_cases c11 : t238.toList = t240.toList
 rotate_left
 ·rw [if_neg c11] at H
  have c11b0 : (t238.toList == t240.toList) = false:=beq_eq_false_iff_ne.mpr c11
  have c11b1 : (t238.toList != t240.toList) = true:=bne_iff_ne.mpr c11
  obtain rfl:=Option.some.inj H
  go_enter Tryd.func4,Tryd.ntmps4
  go_wp2_with (first|((with_reducible refine gate_callee (f:=6) rfl ?_);refine goesL_ (some 22) rfl rfl Tryd.func6 (by kernel_rfl) rfl #[] rfl (by (try simp only [List.map_toArray,List.map_cons,List.map_nil]);first|done|rfl|(simp only [List.length_drop,List.length_take];rfl)) ?_;(with_reducible refine (bursarlaw13_fixed.calls  true _ A5.out (Glob.below hG (by repeat (first|(with_reducible first|exact HB.out|apply below_alloc|apply pw_below_drewN|apply below_drew1)|exact HB.out)))).mono ?_);rintro e w41 ⟨rfl,hb⟩;refine ⟨_,rfl,?_⟩;have n0_:=Aside0.mk (below_step (by repeat (first|(with_reducible first|exact HB.out|apply below_alloc|apply pw_below_drewN|apply below_drew1)|exact HB.out)) hb);clear HB;have HB:=n0_;clear n0_;(try clear hb);(try clear hb2);(try clear hk);(try clear hi))|((with_reducible refine gate_callee (f:=11) rfl ?_);refine goesL_ (some 29) rfl rfl Tryd.func11 (by kernel_rfl) rfl #[.int .i64 a0,.string a1,.string a2] rfl (by (try simp only [List.map_toArray,List.map_cons,List.map_nil]);first|done|rfl|(simp only [List.length_drop,List.length_take];rfl)) ?_;(with_reducible refine (object_Key.calls a0 a1 a2 t238 t239 _ A7.out (Glob.below hG (by repeat (first|(with_reducible first|exact HB.out|apply below_alloc|apply pw_below_drewN|apply below_drew1)|exact HB.out)))).mono ?_);rintro e w42 ⟨rfl,hb⟩;refine ⟨_,rfl,?_⟩;have n0_:=Aside0.mk (below_step (by repeat (first|(with_reducible first|exact HB.out|apply below_alloc|apply pw_below_drewN|apply below_drew1)|exact HB.out)) hb);clear HB;have HB:=n0_;clear n0_;(try clear hb);(try clear hb2);(try clear hk);(try clear hi))|((with_reducible refine gate_callee (f:=12) rfl ?_);refine goesL_ (some 36) rfl rfl Tryd.func12 (by kernel_rfl) rfl #[.int .i64 a0,.string a1,.string a2] rfl (by (try simp only [List.map_toArray,List.map_cons,List.map_nil]);first|done|rfl|(simp only [List.length_drop,List.length_take];rfl)) ?_;(with_reducible refine (bursarref13_Key.calls k a0 a1 a2 t240 t241 _ A8.out).mono ?_);rintro e w43 ⟨rfl,hb⟩;refine ⟨_,rfl,?_⟩;have n0_:=Aside0.mk (below_step (by repeat (first|(with_reducible first|exact HB.out|apply below_alloc|apply pw_below_drewN|apply below_drew1)|exact HB.out)) hb);clear HB;have HB:=n0_;clear n0_;(try clear hb);(try clear hb2);(try clear hk);(try clear hi))|((with_reducible refine gate_callee (f:=13) rfl ?_);refine goesL_ (some 41) rfl rfl Tryd.func13 (by kernel_rfl) rfl #[.string a3] rfl (by (try simp only [List.map_toArray,List.map_cons,List.map_nil]);first|done|rfl|(simp only [List.length_drop,List.length_take];rfl)) ?_;(with_reducible refine (object_Unkey.calls k a3 t242 t243 t244 t245 _ A9.out (Glob.below hG (by repeat (first|(with_reducible first|exact HB.out|apply below_alloc|apply pw_below_drewN|apply below_drew1)|exact HB.out)))).mono ?_);rintro e w44 ⟨rfl,hb⟩;refine ⟨_,rfl,?_⟩;have n0_:=Aside0.mk (below_step (by repeat (first|(with_reducible first|exact HB.out|apply below_alloc|apply pw_below_drewN|apply below_drew1)|exact HB.out)) hb);clear HB;have HB:=n0_;clear n0_;(try clear hb);(try clear hb2);(try clear hk);(try clear hi))|((with_reducible refine gate_callee (f:=14) rfl ?_);refine goesL_ (some 48) rfl rfl Tryd.func14 (by kernel_rfl) rfl #[.string a3] rfl (by (try simp only [List.map_toArray,List.map_cons,List.map_nil]);first|done|rfl|(simp only [List.length_drop,List.length_take];rfl)) ?_;(with_reducible refine (bursarref13_Unkey.calls k a3 t246 t247 t248 t249 _ A10.out).mono ?_);rintro e w45 ⟨rfl,hb⟩;refine ⟨_,rfl,?_⟩;have n0_:=Aside0.mk (below_step (by repeat (first|(with_reducible first|exact HB.out|apply below_alloc|apply pw_below_drewN|apply below_drew1)|exact HB.out)) hb);clear HB;have HB:=n0_;clear n0_;(try clear hb);(try clear hb2);(try clear hk);(try clear hi)))
  go_ret
  exact ⟨by first|rfl|(simp [errW_none,errW_some] <;> rfl)|(simp [*,errW_none,errW_some] <;> rfl),by repeat (first|(with_reducible first|exact HB.out|apply below_alloc|apply pw_below_drewN|apply below_drew1)|exact HB.out)⟩
 rw [if_pos c11] at H
 have c11b0 : (t238.toList == t240.toList) = true:=beq_iff_eq.mpr c11
 have c11b1 : (t238.toList != t240.toList) = false:=bne_eq_false_iff_eq.mpr c11
 clear c11
 by_cases c12 : t239 = t241
 rotate_left
 ·rw [if_neg c12] at H
  have c12b0 : (t239 == t241) = false:=beq_eq_false_iff_ne.mpr c12
  have c12b1 : (t239 != t241) = true:=bne_iff_ne.mpr c12
  obtain rfl:=Option.some.inj H
  go_enter Tryd.func4,Tryd.ntmps4
  go_wp2_with (first|((with_reducible refine gate_callee (f:=6) rfl ?_);refine goesL_ (some 22) rfl rfl Tryd.func6 (by kernel_rfl) rfl #[] rfl (by (try simp only [List.map_toArray,List.map_cons,List.map_nil]);first|done|rfl|(simp only [List.length_drop,List.length_take];rfl)) ?_;(with_reducible refine (bursarlaw13_fixed.calls  true _ A5.out (Glob.below hG (by repeat (first|(with_reducible first|exact HB.out|apply below_alloc|apply pw_below_drewN|apply below_drew1)|exact HB.out)))).mono ?_);rintro e w36 ⟨rfl,hb⟩;refine ⟨_,rfl,?_⟩;have n0_:=Aside0.mk (below_step (by repeat (first|(with_reducible first|exact HB.out|apply below_alloc|apply pw_below_drewN|apply below_drew1)|exact HB.out)) hb);clear HB;have HB:=n0_;clear n0_;(try clear hb);(try clear hb2);(try clear hk);(try clear hi))|((with_reducible refine gate_callee (f:=11) rfl ?_);refine goesL_ (some 29) rfl rfl Tryd.func11 (by kernel_rfl) rfl #[.int .i64 a0,.string a1,.string a2] rfl (by (try simp only [List.map_toArray,List.map_cons,List.map_nil]);first|done|rfl|(simp only [List.length_drop,List.length_take];rfl)) ?_;(with_reducible refine (object_Key.calls a0 a1 a2 t238 t239 _ A7.out (Glob.below hG (by repeat (first|(with_reducible first|exact HB.out|apply below_alloc|apply pw_below_drewN|apply below_drew1)|exact HB.out)))).mono ?_);rintro e w37 ⟨rfl,hb⟩;refine ⟨_,rfl,?_⟩;have n0_:=Aside0.mk (below_step (by repeat (first|(with_reducible first|exact HB.out|apply below_alloc|apply pw_below_drewN|apply below_drew1)|exact HB.out)) hb);clear HB;have HB:=n0_;clear n0_;(try clear hb);(try clear hb2);(try clear hk);(try clear hi))|((with_reducible refine gate_callee (f:=12) rfl ?_);refine goesL_ (some 36) rfl rfl Tryd.func12 (by kernel_rfl) rfl #[.int .i64 a0,.string a1,.string a2] rfl (by (try simp only [List.map_toArray,List.map_cons,List.map_nil]);first|done|rfl|(simp only [List.length_drop,List.length_take];rfl)) ?_;(with_reducible refine (bursarref13_Key.calls k a0 a1 a2 t240 t241 _ A8.out).mono ?_);rintro e w38 ⟨rfl,hb⟩;refine ⟨_,rfl,?_⟩;have n0_:=Aside0.mk (below_step (by repeat (first|(with_reducible first|exact HB.out|apply below_alloc|apply pw_below_drewN|apply below_drew1)|exact HB.out)) hb);clear HB;have HB:=n0_;clear n0_;(try clear hb);(try clear hb2);(try clear hk);(try clear hi))|((with_reducible refine gate_callee (f:=13) rfl ?_);refine goesL_ (some 41) rfl rfl Tryd.func13 (by kernel_rfl) rfl #[.string a3] rfl (by (try simp only [List.map_toArray,List.map_cons,List.map_nil]);first|done|rfl|(simp only [List.length_drop,List.length_take];rfl)) ?_;(with_reducible refine (object_Unkey.calls k a3 t242 t243 t244 t245 _ A9.out (Glob.below hG (by repeat (first|(with_reducible first|exact HB.out|apply below_alloc|apply pw_below_drewN|apply below_drew1)|exact HB.out)))).mono ?_);rintro e w39 ⟨rfl,hb⟩;refine ⟨_,rfl,?_⟩;have n0_:=Aside0.mk (below_step (by repeat (first|(with_reducible first|exact HB.out|apply below_alloc|apply pw_below_drewN|apply below_drew1)|exact HB.out)) hb);clear HB;have HB:=n0_;clear n0_;(try clear hb);(try clear hb2);(try clear hk);(try clear hi))|((with_reducible refine gate_callee (f:=14) rfl ?_);refine goesL_ (some 48) rfl rfl Tryd.func14 (by kernel_rfl) rfl #[.string a3] rfl (by (try simp only [List.map_toArray,List.map_cons,List.map_nil]);first|done|rfl|(simp only [List.length_drop,List.length_take];rfl)) ?_;(with_reducible refine (bursarref13_Unkey.calls k a3 t246 t247 t248 t249 _ A10.out).mono ?_);rintro e w40 ⟨rfl,hb⟩;refine ⟨_,rfl,?_⟩;have n0_:=Aside0.mk (below_step (by repeat (first|(with_reducible first|exact HB.out|apply below_alloc|apply pw_below_drewN|apply below_drew1)|exact HB.out)) hb);clear HB;have HB:=n0_;clear n0_;(try clear hb);(try clear hb2);(try clear hk);(try clear hi)))
  go_ret
  exact ⟨by first|rfl|(simp [errW_none,errW_some] <;> rfl)|(simp [*,errW_none,errW_some] <;> rfl),by repeat (first|(with_reducible first|exact HB.out|apply below_alloc|apply pw_below_drewN|apply below_drew1)|exact HB.out)⟩
 rw [if_pos c12] at H
 have c12b0 : (t239 == t241) = true:=beq_iff_eq.mpr c12
 have c12b1 : (t239 != t241) = false:=bne_eq_false_iff_eq.mpr c12
 clear c12
 by_cases c13 : t242 = t246
 rotate_left
 ·rw [if_neg c13] at H
  have c13b0 : (t242 == t246) = false:=beq_eq_false_iff_ne.mpr c13
  have c13b1 : (t242 != t246) = true:=bne_iff_ne.mpr c13
  obtain rfl:=Option.some.inj H
  go_enter Tryd.func4,Tryd.ntmps4
  go_wp2_with (first|((with_reducible refine gate_callee (f:=6) rfl ?_);refine goesL_ (some 22) rfl rfl Tryd.func6 (by kernel_rfl) rfl #[] rfl (by (try simp only [List.map_toArray,List.map_cons,List.map_nil]);first|done|rfl|(simp only [List.length_drop,List.length_take];rfl)) ?_;(with_reducible refine (bursarlaw13_fixed.calls  true _ A5.out (Glob.below hG (by repeat (first|(with_reducible first|exact HB.out|apply below_alloc|apply pw_below_drewN|apply below_drew1)|exact HB.out)))).mono ?_);rintro e w31 ⟨rfl,hb⟩;refine ⟨_,rfl,?_⟩;have n0_:=Aside0.mk (below_step (by repeat (first|(with_reducible first|exact HB.out|apply below_alloc|apply pw_below_drewN|apply below_drew1)|exact HB.out)) hb);clear HB;have HB:=n0_;clear n0_;(try clear hb);(try clear hb2);(try clear hk);(try clear hi))|((with_reducible refine gate_callee (f:=11) rfl ?_);refine goesL_ (some 29) rfl rfl Tryd.func11 (by kernel_rfl) rfl #[.int .i64 a0,.string a1,.string a2] rfl (by (try simp only [List.map_toArray,List.map_cons,List.map_nil]);first|done|rfl|(simp only [List.length_drop,List.length_take];rfl)) ?_;(with_reducible refine (object_Key.calls a0 a1 a2 t238 t239 _ A7.out (Glob.below hG (by repeat (first|(with_reducible first|exact HB.out|apply below_alloc|apply pw_below_drewN|apply below_drew1)|exact HB.out)))).mono ?_);rintro e w32 ⟨rfl,hb⟩;refine ⟨_,rfl,?_⟩;have n0_:=Aside0.mk (below_step (by repeat (first|(with_reducible first|exact HB.out|apply below_alloc|apply pw_below_drewN|apply below_drew1)|exact HB.out)) hb);clear HB;have HB:=n0_;clear n0_;(try clear hb);(try clear hb2);(try clear hk);(try clear hi))|((with_reducible refine gate_callee (f:=12) rfl ?_);refine goesL_ (some 36) rfl rfl Tryd.func12 (by kernel_rfl) rfl #[.int .i64 a0,.string a1,.string a2] rfl (by (try simp only [List.map_toArray,List.map_cons,List.map_nil]);first|done|rfl|(simp only [List.length_drop,List.length_take];rfl)) ?_;(with_reducible refine (bursarref13_Key.calls k a0 a1 a2 t240 t241 _ A8.out).mono ?_);rintro e w33 ⟨rfl,hb⟩;refine ⟨_,rfl,?_⟩;have n0_:=Aside0.mk (below_step (by repeat (first|(with_reducible first|exact HB.out|apply below_alloc|apply pw_below_drewN|apply below_drew1)|exact HB.out)) hb);clear HB;have HB:=n0_;clear n0_;(try clear hb);(try clear hb2);(try clear hk);(try clear hi))|((with_reducible refine gate_callee (f:=13) rfl ?_);refine goesL_ (some 41) rfl rfl Tryd.func13 (by kernel_rfl) rfl #[.string a3] rfl (by (try simp only [List.map_toArray,List.map_cons,List.map_nil]);first|done|rfl|(simp only [List.length_drop,List.length_take];rfl)) ?_;(with_reducible refine (object_Unkey.calls k a3 t242 t243 t244 t245 _ A9.out (Glob.below hG (by repeat (first|(with_reducible first|exact HB.out|apply below_alloc|apply pw_below_drewN|apply below_drew1)|exact HB.out)))).mono ?_);rintro e w34 ⟨rfl,hb⟩;refine ⟨_,rfl,?_⟩;have n0_:=Aside0.mk (below_step (by repeat (first|(with_reducible first|exact HB.out|apply below_alloc|apply pw_below_drewN|apply below_drew1)|exact HB.out)) hb);clear HB;have HB:=n0_;clear n0_;(try clear hb);(try clear hb2);(try clear hk);(try clear hi))|((with_reducible refine gate_callee (f:=14) rfl ?_);refine goesL_ (some 48) rfl rfl Tryd.func14 (by kernel_rfl) rfl #[.string a3] rfl (by (try simp only [List.map_toArray,List.map_cons,List.map_nil]);first|done|rfl|(simp only [List.length_drop,List.length_take];rfl)) ?_;(with_reducible refine (bursarref13_Unkey.calls k a3 t246 t247 t248 t249 _ A10.out).mono ?_);rintro e w35 ⟨rfl,hb⟩;refine ⟨_,rfl,?_⟩;have n0_:=Aside0.mk (below_step (by repeat (first|(with_reducible first|exact HB.out|apply below_alloc|apply pw_below_drewN|apply below_drew1)|exact HB.out)) hb);clear HB;have HB:=n0_;clear n0_;(try clear hb);(try clear hb2);(try clear hk);(try clear hi)))
  go_ret
  exact ⟨by first|rfl|(simp [errW_none,errW_some] <;> rfl)|(simp [*,errW_none,errW_some] <;> rfl),by repeat (first|(with_reducible first|exact HB.out|apply below_alloc|apply pw_below_drewN|apply below_drew1)|exact HB.out)⟩
 rw [if_pos c13] at H
 have c13b0 : (t242 == t246) = true:=beq_iff_eq.mpr c13
 have c13b1 : (t242 != t246) = false:=bne_eq_false_iff_eq.mpr c13
 clear c13
 by_cases c14 : t243.toList = t247.toList
 rotate_left
 ·rw [if_neg c14] at H
  have c14b0 : (t243.toList == t247.toList) = false:=beq_eq_false_iff_ne.mpr c14
  have c14b1 : (t243.toList != t247.toList) = true:=bne_iff_ne.mpr c14
  obtain rfl:=Option.some.inj H
  go_enter Tryd.func4,Tryd.ntmps4
  go_wp2_with (first|((with_reducible refine gate_callee (f:=6) rfl ?_);refine goesL_ (some 22) rfl rfl Tryd.func6 (by kernel_rfl) rfl #[] rfl (by (try simp only [List.map_toArray,List.map_cons,List.map_nil]);first|done|rfl|(simp only [List.length_drop,List.length_take];rfl)) ?_;(with_reducible refine (bursarlaw13_fixed.calls  true _ A5.out (Glob.below hG (by repeat (first|(with_reducible first|exact HB.out|apply below_alloc|apply pw_below_drewN|apply below_drew1)|exact HB.out)))).mono ?_);rintro e w26 ⟨rfl,hb⟩;refine ⟨_,rfl,?_⟩;have n0_:=Aside0.mk (below_step (by repeat (first|(with_reducible first|exact HB.out|apply below_alloc|apply pw_below_drewN|apply below_drew1)|exact HB.out)) hb);clear HB;have HB:=n0_;clear n0_;(try clear hb);(try clear hb2);(try clear hk);(try clear hi))|((with_reducible refine gate_callee (f:=11) rfl ?_);refine goesL_ (some 29) rfl rfl Tryd.func11 (by kernel_rfl) rfl #[.int .i64 a0,.string a1,.string a2] rfl (by (try simp only [List.map_toArray,List.map_cons,List.map_nil]);first|done|rfl|(simp only [List.length_drop,List.length_take];rfl)) ?_;(with_reducible refine (object_Key.calls a0 a1 a2 t238 t239 _ A7.out (Glob.below hG (by repeat (first|(with_reducible first|exact HB.out|apply below_alloc|apply pw_below_drewN|apply below_drew1)|exact HB.out)))).mono ?_);rintro e w27 ⟨rfl,hb⟩;refine ⟨_,rfl,?_⟩;have n0_:=Aside0.mk (below_step (by repeat (first|(with_reducible first|exact HB.out|apply below_alloc|apply pw_below_drewN|apply below_drew1)|exact HB.out)) hb);clear HB;have HB:=n0_;clear n0_;(try clear hb);(try clear hb2);(try clear hk);(try clear hi))|((with_reducible refine gate_callee (f:=12) rfl ?_);refine goesL_ (some 36) rfl rfl Tryd.func12 (by kernel_rfl) rfl #[.int .i64 a0,.string a1,.string a2] rfl (by (try simp only [List.map_toArray,List.map_cons,List.map_nil]);first|done|rfl|(simp only [List.length_drop,List.length_take];rfl)) ?_;(with_reducible refine (bursarref13_Key.calls k a0 a1 a2 t240 t241 _ A8.out).mono ?_);rintro e w28 ⟨rfl,hb⟩;refine ⟨_,rfl,?_⟩;have n0_:=Aside0.mk (below_step (by repeat (first|(with_reducible first|exact HB.out|apply below_alloc|apply pw_below_drewN|apply below_drew1)|exact HB.out)) hb);clear HB;have HB:=n0_;clear n0_;(try clear hb);(try clear hb2);(try clear hk);(try clear hi))|((with_reducible refine gate_callee (f:=13) rfl ?_);refine goesL_ (some 41) rfl rfl Tryd.func13 (by kernel_rfl) rfl #[.string a3] rfl (by (try simp only [List.map_toArray,List.map_cons,List.map_nil]);first|done|rfl|(simp only [List.length_drop,List.length_take];rfl)) ?_;(with_reducible refine (object_Unkey.calls k a3 t242 t243 t244 t245 _ A9.out (Glob.below hG (by repeat (first|(with_reducible first|exact HB.out|apply below_alloc|apply pw_below_drewN|apply below_drew1)|exact HB.out)))).mono ?_);rintro e w29 ⟨rfl,hb⟩;refine ⟨_,rfl,?_⟩;have n0_:=Aside0.mk (below_step (by repeat (first|(with_reducible first|exact HB.out|apply below_alloc|apply pw_below_drewN|apply below_drew1)|exact HB.out)) hb);clear HB;have HB:=n0_;clear n0_;(try clear hb);(try clear hb2);(try clear hk);(try clear hi))|((with_reducible refine gate_callee (f:=14) rfl ?_);refine goesL_ (some 48) rfl rfl Tryd.func14 (by kernel_rfl) rfl #[.string a3] rfl (by (try simp only [List.map_toArray,List.map_cons,List.map_nil]);first|done|rfl|(simp only [List.length_drop,List.length_take];rfl)) ?_;(with_reducible refine (bursarref13_Unkey.calls k a3 t246 t247 t248 t249 _ A10.out).mono ?_);rintro e w30 ⟨rfl,hb⟩;refine ⟨_,rfl,?_⟩;have n0_:=Aside0.mk (below_step (by repeat (first|(with_reducible first|exact HB.out|apply below_alloc|apply pw_below_drewN|apply below_drew1)|exact HB.out)) hb);clear HB;have HB:=n0_;clear n0_;(try clear hb);(try clear hb2);(try clear hk);(try clear hi)))
  go_ret
  exact ⟨by first|rfl|(simp [errW_none,errW_some] <;> rfl)|(simp [*,errW_none,errW_some] <;> rfl),by repeat (first|(with_reducible first|exact HB.out|apply below_alloc|apply pw_below_drewN|apply below_drew1)|exact HB.out)⟩
 rw [if_pos c14] at H
 have c14b0 : (t243.toList == t247.toList) = true:=beq_iff_eq.mpr c14
 have c14b1 : (t243.toList != t247.toList) = false:=bne_eq_false_iff_eq.mpr c14
 clear c14
 by_cases c15 : t244.toList = t248.toList
 rotate_left
 ·rw [if_neg c15] at H
  have c15b0 : (t244.toList == t248.toList) = false:=beq_eq_false_iff_ne.mpr c15
  have c15b1 : (t244.toList != t248.toList) = true:=bne_iff_ne.mpr c15
  obtain rfl:=Option.some.inj H
  go_enter Tryd.func4,Tryd.ntmps4
  go_wp2_with (first|((with_reducible refine gate_callee (f:=6) rfl ?_);refine goesL_ (some 22) rfl rfl Tryd.func6 (by kernel_rfl) rfl #[] rfl (by (try simp only [List.map_toArray,List.map_cons,List.map_nil]);first|done|rfl|(simp only [List.length_drop,List.length_take];rfl)) ?_;(with_reducible refine (bursarlaw13_fixed.calls  true _ A5.out (Glob.below hG (by repeat (first|(with_reducible first|exact HB.out|apply below_alloc|apply pw_below_drewN|apply below_drew1)|exact HB.out)))).mono ?_);rintro e w21 ⟨rfl,hb⟩;refine ⟨_,rfl,?_⟩;have n0_:=Aside0.mk (below_step (by repeat (first|(with_reducible first|exact HB.out|apply below_alloc|apply pw_below_drewN|apply below_drew1)|exact HB.out)) hb);clear HB;have HB:=n0_;clear n0_;(try clear hb);(try clear hb2);(try clear hk);(try clear hi))|((with_reducible refine gate_callee (f:=11) rfl ?_);refine goesL_ (some 29) rfl rfl Tryd.func11 (by kernel_rfl) rfl #[.int .i64 a0,.string a1,.string a2] rfl (by (try simp only [List.map_toArray,List.map_cons,List.map_nil]);first|done|rfl|(simp only [List.length_drop,List.length_take];rfl)) ?_;(with_reducible refine (object_Key.calls a0 a1 a2 t238 t239 _ A7.out (Glob.below hG (by repeat (first|(with_reducible first|exact HB.out|apply below_alloc|apply pw_below_drewN|apply below_drew1)|exact HB.out)))).mono ?_);rintro e w22 ⟨rfl,hb⟩;refine ⟨_,rfl,?_⟩;have n0_:=Aside0.mk (below_step (by repeat (first|(with_reducible first|exact HB.out|apply below_alloc|apply pw_below_drewN|apply below_drew1)|exact HB.out)) hb);clear HB;have HB:=n0_;clear n0_;(try clear hb);(try clear hb2);(try clear hk);(try clear hi))|((with_reducible refine gate_callee (f:=12) rfl ?_);refine goesL_ (some 36) rfl rfl Tryd.func12 (by kernel_rfl) rfl #[.int .i64 a0,.string a1,.string a2] rfl (by (try simp only [List.map_toArray,List.map_cons,List.map_nil]);first|done|rfl|(simp only [List.length_drop,List.length_take];rfl)) ?_;(with_reducible refine (bursarref13_Key.calls k a0 a1 a2 t240 t241 _ A8.out).mono ?_);rintro e w23 ⟨rfl,hb⟩;refine ⟨_,rfl,?_⟩;have n0_:=Aside0.mk (below_step (by repeat (first|(with_reducible first|exact HB.out|apply below_alloc|apply pw_below_drewN|apply below_drew1)|exact HB.out)) hb);clear HB;have HB:=n0_;clear n0_;(try clear hb);(try clear hb2);(try clear hk);(try clear hi))|((with_reducible refine gate_callee (f:=13) rfl ?_);refine goesL_ (some 41) rfl rfl Tryd.func13 (by kernel_rfl) rfl #[.string a3] rfl (by (try simp only [List.map_toArray,List.map_cons,List.map_nil]);first|done|rfl|(simp only [List.length_drop,List.length_take];rfl)) ?_;(with_reducible refine (object_Unkey.calls k a3 t242 t243 t244 t245 _ A9.out (Glob.below hG (by repeat (first|(with_reducible first|exact HB.out|apply below_alloc|apply pw_below_drewN|apply below_drew1)|exact HB.out)))).mono ?_);rintro e w24 ⟨rfl,hb⟩;refine ⟨_,rfl,?_⟩;have n0_:=Aside0.mk (below_step (by repeat (first|(with_reducible first|exact HB.out|apply below_alloc|apply pw_below_drewN|apply below_drew1)|exact HB.out)) hb);clear HB;have HB:=n0_;clear n0_;(try clear hb);(try clear hb2);(try clear hk);(try clear hi))|((with_reducible refine gate_callee (f:=14) rfl ?_);refine goesL_ (some 48) rfl rfl Tryd.func14 (by kernel_rfl) rfl #[.string a3] rfl (by (try simp only [List.map_toArray,List.map_cons,List.map_nil]);first|done|rfl|(simp only [List.length_drop,List.length_take];rfl)) ?_;(with_reducible refine (bursarref13_Unkey.calls k a3 t246 t247 t248 t249 _ A10.out).mono ?_);rintro e w25 ⟨rfl,hb⟩;refine ⟨_,rfl,?_⟩;have n0_:=Aside0.mk (below_step (by repeat (first|(with_reducible first|exact HB.out|apply below_alloc|apply pw_below_drewN|apply below_drew1)|exact HB.out)) hb);clear HB;have HB:=n0_;clear n0_;(try clear hb);(try clear hb2);(try clear hk);(try clear hi)))
  go_ret
  exact ⟨by first|rfl|(simp [errW_none,errW_some] <;> rfl)|(simp [*,errW_none,errW_some] <;> rfl),by repeat (first|(with_reducible first|exact HB.out|apply below_alloc|apply pw_below_drewN|apply below_drew1)|exact HB.out)⟩
 rw [if_pos c15] at H
 have c15b0 : (t244.toList == t248.toList) = true:=beq_iff_eq.mpr c15
 have c15b1 : (t244.toList != t248.toList) = false:=bne_eq_false_iff_eq.mpr c15
 clear c15
 obtain rfl:=Option.some.inj H
 go_enter Tryd.func4,Tryd.ntmps4
 go_wp2_with (first|((with_reducible refine gate_callee (f:=6) rfl ?_);refine goesL_ (some 22) rfl rfl Tryd.func6 (by kernel_rfl) rfl #[] rfl (by (try simp only [List.map_toArray,List.map_cons,List.map_nil]);first|done|rfl|(simp only [List.length_drop,List.length_take];rfl)) ?_;(with_reducible refine (bursarlaw13_fixed.calls  true _ A5.out (Glob.below hG (by repeat (first|(with_reducible first|exact HB.out|apply below_alloc|apply pw_below_drewN|apply below_drew1)|exact HB.out)))).mono ?_);rintro e w16 ⟨rfl,hb⟩;refine ⟨_,rfl,?_⟩;have n0_:=Aside0.mk (below_step (by repeat (first|(with_reducible first|exact HB.out|apply below_alloc|apply pw_below_drewN|apply below_drew1)|exact HB.out)) hb);clear HB;have HB:=n0_;clear n0_;(try clear hb);(try clear hb2);(try clear hk);(try clear hi))|((with_reducible refine gate_callee (f:=11) rfl ?_);refine goesL_ (some 29) rfl rfl Tryd.func11 (by kernel_rfl) rfl #[.int .i64 a0,.string a1,.string a2] rfl (by (try simp only [List.map_toArray,List.map_cons,List.map_nil]);first|done|rfl|(simp only [List.length_drop,List.length_take];rfl)) ?_;(with_reducible refine (object_Key.calls a0 a1 a2 t238 t239 _ A7.out (Glob.below hG (by repeat (first|(with_reducible first|exact HB.out|apply below_alloc|apply pw_below_drewN|apply below_drew1)|exact HB.out)))).mono ?_);rintro e w17 ⟨rfl,hb⟩;refine ⟨_,rfl,?_⟩;have n0_:=Aside0.mk (below_step (by repeat (first|(with_reducible first|exact HB.out|apply below_alloc|apply pw_below_drewN|apply below_drew1)|exact HB.out)) hb);clear HB;have HB:=n0_;clear n0_;(try clear hb);(try clear hb2);(try clear hk);(try clear hi))|((with_reducible refine gate_callee (f:=12) rfl ?_);refine goesL_ (some 36) rfl rfl Tryd.func12 (by kernel_rfl) rfl #[.int .i64 a0,.string a1,.string a2] rfl (by (try simp only [List.map_toArray,List.map_cons,List.map_nil]);first|done|rfl|(simp only [List.length_drop,List.length_take];rfl)) ?_;(with_reducible refine (bursarref13_Key.calls k a0 a1 a2 t240 t241 _ A8.out).mono ?_);rintro e w18 ⟨rfl,hb⟩;refine ⟨_,rfl,?_⟩;have n0_:=Aside0.mk (below_step (by repeat (first|(with_reducible first|exact HB.out|apply below_alloc|apply pw_below_drewN|apply below_drew1)|exact HB.out)) hb);clear HB;have HB:=n0_;clear n0_;(try clear hb);(try clear hb2);(try clear hk);(try clear hi))|((with_reducible refine gate_callee (f:=13) rfl ?_);refine goesL_ (some 41) rfl rfl Tryd.func13 (by kernel_rfl) rfl #[.string a3] rfl (by (try simp only [List.map_toArray,List.map_cons,List.map_nil]);first|done|rfl|(simp only [List.length_drop,List.length_take];rfl)) ?_;(with_reducible refine (object_Unkey.calls k a3 t242 t243 t244 t245 _ A9.out (Glob.below hG (by repeat (first|(with_reducible first|exact HB.out|apply below_alloc|apply pw_below_drewN|apply below_drew1)|exact HB.out)))).mono ?_);rintro e w19 ⟨rfl,hb⟩;refine ⟨_,rfl,?_⟩;have n0_:=Aside0.mk (below_step (by repeat (first|(with_reducible first|exact HB.out|apply below_alloc|apply pw_below_drewN|apply below_drew1)|exact HB.out)) hb);clear HB;have HB:=n0_;clear n0_;(try clear hb);(try clear hb2);(try clear hk);(try clear hi))|((with_reducible refine gate_callee (f:=14) rfl ?_);refine goesL_ (some 48) rfl rfl Tryd.func14 (by kernel_rfl) rfl #[.string a3] rfl (by (try simp only [List.map_toArray,List.map_cons,List.map_nil]);first|done|rfl|(simp only [List.length_drop,List.length_take];rfl)) ?_;(with_reducible refine (bursarref13_Unkey.calls k a3 t246 t247 t248 t249 _ A10.out).mono ?_);rintro e w20 ⟨rfl,hb⟩;refine ⟨_,rfl,?_⟩;have n0_:=Aside0.mk (below_step (by repeat (first|(with_reducible first|exact HB.out|apply below_alloc|apply pw_below_drewN|apply below_drew1)|exact HB.out)) hb);clear HB;have HB:=n0_;clear n0_;(try clear hb);(try clear hb2);(try clear hk);(try clear hi)))
 go_ret
 exact ⟨by first|rfl|(simp [errW_none,errW_some] <;> rfl)|(simp [*,errW_none,errW_some] <;> rfl),by repeat (first|(with_reducible first|exact HB.out|apply below_alloc|apply pw_below_drewN|apply below_drew1)|exact HB.out)⟩
end Go.Proofs.YtniolbolfclhkaaDoor.Q
namespace Go.Proofs.YtniolbolfclhkaaDoor.Q
open Go.RowKit Go.Proofs.YtniolbolfclhkaaDoorW.PrintWords Go.Proofs.YtniolbolfclhkaaDoorW.PrintLast Go.Proofs.YtniolbolfclhkaaDoor.Pl
set_option linter.unusedVariables false
set_option linter.unusedSimpArgs false
theorem nstep (k : Nat) (s : ByteArray) (i : Nat) (h : i < s.size) : bursarref04_Name.l0 (k + 1) s (i : Int) = if okByte (s[i]'h) = true then bursarref04_Name.l0 k s (wrap64 ((i : Int) + 1)) else some false := by
  have hb := bt_get s i h
  have hok := ok_iff (s[i]'h)
  rw [plB_iff, hb] at hok
  simp only [bursarref04_Name.l0]
  rw [if_pos (by omega), if_pos (by omega)]
  by_cases ho : okByte (s[i]'h) = true
  · rw [if_pos ho]
    have := hok.1 ho
    repeat' split
    all_goals first | rfl | (exfalso; omega)
  · rw [if_neg ho]
    have hn := fun h => ho (hok.2 h)
    repeat' split
    all_goals first | rfl | (exfalso; exact hn (by omega))
theorem nloop (s : ByteArray) (hs : s.size ≤ 1048576) (d : Nat) : ∀ i : Nat, i + d = s.size → Ev (fun k => bursarref04_Name.l0 k s (i : Int)) ((s.data.toList.drop i).all okByte) := by
  induction d with
  | zero =>
    intro i hi
    refine Ev.step (f := fun _ => some true) (fun k => ?_) ?_
    · simp only [bursarref04_Name.l0]; rw [if_neg (by omega)]
    · rw [List.drop_of_length_le (by rw [size_list]; omega)]; exact Ev.now true
  | succ d ih =>
    intro i hi
    have hlt : i < s.size := by omega
    have hl : i < s.data.toList.length := by rw [size_list]; exact hlt
    have hd : s.data.toList.drop i = s[i]'hlt :: s.data.toList.drop (i + 1) := List.drop_eq_getElem_cons hl
    rw [hd, List.all_cons]
    cases ho : okByte (s[i]'hlt) with
    | true =>
      rw [Bool.true_and]
      refine Ev.step (fun k => ?_) (ih (i + 1) (by omega))
      rw [nstep k s i hlt, if_pos ho, w64 i (by omega)]
    | false =>
      refine Ev.step (f := fun _ => some false) (fun k => ?_) (Ev.now false)
      rw [nstep k s i hlt, if_neg (by rw [ho]; decide)]
theorem name_ev (s : ByteArray) : Ev (fun k => bursarref04_Name.f k s) (nameB s) := by
  have hfalse : Ev (fun k => bursarref04_Name.j0 k s true) false := Ev.step (f := fun _ => some false) (fun k => by simp [bursarref04_Name.j0]) (Ev.now false)
  by_cases h1 : s.size < 1
  · rw [nameB_false (.inl h1)]
    refine Ev.congr (f := fun k => bursarref04_Name.j0 k s true) (fun k => ?_) hfalse
    unfold bursarref04_Name.f; rw [if_pos (by omega)]
  by_cases h2 : 32 < s.size
  · rw [nameB_false (.inr (.inl h2))]
    refine Ev.congr (f := fun k => bursarref04_Name.j0 k s true) (fun k => ?_) hfalse
    unfold bursarref04_Name.f; rw [if_neg (by omega), if_pos (by omega)]
  by_cases h3 : bt s 0 = 45
  · rw [nameB_false (.inr (.inr (.inl h3)))]
    refine Ev.congr (f := fun k => bursarref04_Name.j0 k s true) (fun k => ?_) hfalse
    unfold bursarref04_Name.f; rw [if_neg (by omega), if_neg (by omega), if_pos (by omega), if_pos h3]
  have hw : wrap64 ((s.size : Int) - 1) = (s.size : Int) - 1 := by unfold wrap64; omega
  by_cases h4 : bt s ((s.size : Int) - 1) = 45
  · rw [nameB_false (.inr (.inr (.inr (.inl h4))))]
    refine Ev.congr (f := fun k => bursarref04_Name.j0 k s true) (fun k => ?_) hfalse
    unfold bursarref04_Name.f
    rw [if_neg (by omega), if_neg (by omega), if_pos (by omega), if_neg h3, hw, if_pos (by omega), if_pos (by omega), h4]; rfl
  have hv : nameB s = s.data.toList.all okByte := by
    cases h : s.data.toList.all okByte with
    | true => exact nameB_true (by omega) (by omega) h3 h4 h
    | false => exact nameB_false (.inr (.inr (.inr (.inr h))))
  rw [hv]
  refine Ev.congr (f := fun k => bursarref04_Name.j0 k s false) (fun k => ?_) ?_
  · unfold bursarref04_Name.f
    have e : (bt s ((s.size : Int) - 1) == 45) = false := by rw [beq_eq_false_iff_ne]; exact h4
    rw [if_neg (by omega), if_neg (by omega), if_pos (by omega), if_neg h3, hw, if_pos (by omega), if_pos (by omega), e]
  · refine Ev.step (f := fun k => bursarref04_Name.l0 k s 0) (fun k => by simp [bursarref04_Name.j0]) ?_
    exact nloop s (by omega) s.size 0 (by omega)
theorem ploop (s : ByteArray) (c : UInt8) (hs : s.size ≤ 1048576) (d : Nat) : ∀ (i f : Nat) (acc : List ByteArray), i + d = s.size → f ≤ i → acc.length ≤ i →
    Ev (fun k => bursarref04_pieces.l0 k s (c.toNat : Int) acc (f : Int) (i : Int)) (acc ++ (rest c s f i).map toB) := by
  induction d with
  | zero =>
    intro i f acc hi hf ha
    refine Ev.step (f := fun k => bursarref04_pieces.l0 k s (c.toNat : Int) (acc ++ [s.extract f i]) (((i + 1 : Nat)) : Int) (((i + 1 : Nat)) : Int)) (fun k => ?_) ?_
    · simp only [bursarref04_pieces.l0]
      rw [if_pos (by omega), if_pos (by omega), if_pos (by omega), if_pos (by omega), if_pos (by omega), w64 i (by omega), Int.toNat_natCast, Int.toNat_natCast]
    · refine Ev.step (f := fun _ => some (acc ++ [s.extract f i])) (fun k => ?_) ?_
      · simp only [bursarref04_pieces.l0]; rw [if_neg (by omega)]
      · have e : rest c s f i = [(s.data.toList.take i).drop f] := by
          unfold rest
          rw [List.drop_of_length_le (by rw [size_list]; omega)]
          simp [pcs]
        rw [e, List.map_cons, List.map_nil, ← ext_list, toB_of]
        exact Ev.now _
  | succ d ih =>
    intro i f acc hi hf ha
    have hlt : i < s.size := by omega
    have hb := bt_get s i hlt
    by_cases hc : s[i]'hlt = c
    · have e : rest c s f i = ((s.data.toList.take i).drop f) :: rest c s (i + 1) (i + 1) := by
        unfold rest
        rw [drop_cons s i hlt, hc, pcs_hit]
        cases hp : pcs c (s.data.toList.drop (i + 1)) with
        | nil => exact absurd hp (pcs_ne _ _)
        | cons p r => simp [hp]
      refine Ev.step (f := fun k => bursarref04_pieces.l0 k s (c.toNat : Int) (acc ++ [s.extract f i]) (((i + 1 : Nat)) : Int) (((i + 1 : Nat)) : Int)) (fun k => ?_) ?_
      · simp only [bursarref04_pieces.l0]
        rw [if_pos (by omega), if_neg (by omega), if_pos (by omega), if_pos (by omega), if_pos (by rw [← hb, hc]), if_pos (by omega), if_pos (by omega), if_pos (by omega), w64 i (by omega), Int.toNat_natCast, Int.toNat_natCast]
      · rw [e, List.map_cons, ← ext_list, toB_of]
        have := ih (i + 1) (i + 1) (acc ++ [s.extract f i]) (by omega) (by omega) (by simp; omega)
        simpa using this
    · have e : rest c s f i = rest c s f (i + 1) := by
        obtain ⟨p, r, h1, h2⟩ := pcs_cons c (s[i]'hlt) (s.data.toList.drop (i + 1)) hc
        unfold rest
        rw [drop_cons s i hlt, h2, h1, take_drop_succ s f i hf hlt]
        simp
      rw [e]
      refine Ev.step (fun k => ?_) (ih (i + 1) f acc (by omega) (by omega) (by omega))
      have hne : ¬ bt s (i : Int) = (c.toNat : Int) := fun h => hc (by rw [← hb] at h; exact UInt8.toNat_inj.1 (by omega))
      simp only [bursarref04_pieces.l0]
      rw [if_pos (by omega), if_neg (by omega), if_pos (by omega), if_pos (by omega), if_neg hne, w64 i (by omega)]
theorem pieces_ev (s : ByteArray) (c : UInt8) (hs : s.size ≤ 1048576) : Ev (fun k => bursarref04_pieces.f k s (c.toNat : Int)) ((pcs c s.data.toList).map toB) := by
  have h := ploop s c hs s.size 0 0 [] (by omega) (by omega) (by simp)
  have e : rest c s 0 0 = pcs c s.data.toList := by
    unfold rest
    simp only [List.drop_zero, List.take_zero]
    cases hp : pcs c s.data.toList with
    | nil => exact absurd hp (pcs_ne _ _)
    | cons p r => simp
  rw [e, List.nil_append] at h
  exact h
theorem rsloop (l : List (List UInt8)) (hl : l.length ≤ 2000000) (h1 : 1 ≤ l.length) (d : Nat) : ∀ i : Nat, i + d = l.length → 1 ≤ i →
    Ev (fun k => bursarref04_Split.l0 k (l.map toB) (i : Int)) (if (l.drop i).all nameL = true then ((l.drop 1).map toB, 0) else ([], 41)) := by
  induction d with
  | zero =>
    intro i hi _
    rw [List.drop_of_length_le (by omega)]
    refine Ev.step (f := fun _ => some ((l.drop 1).map toB, 0)) (fun k => ?_) (Ev.now _)
    simp only [bursarref04_Split.l0]
    rw [if_neg (by simp; omega), if_pos (by simp; omega)]
    simp
  | succ d ih =>
    intro i hi h0
    have hlt : i < l.length := by omega
    rw [drop_at l i hlt, List.all_cons]
    refine Ev.step (fun k => ?_) (Ev.bind (name_ev (toB l[i])) (f := fun k t => if t = true then bursarref04_Split.l0 k (l.map toB) ((i + 1 : Nat) : Int) else some ([], 41)) ?_)
    · simp only [bursarref04_Split.l0]
      rw [if_pos (by simp; omega), if_pos (by omega), rd_map l i hlt, w64 i (by omega)]
    · show Ev (fun k => if nameL l[i] = true then _ else _) _
      cases hn : nameL l[i] with
      | true =>
        have := ih (i + 1) (by omega) (by omega)
        simpa using this
      | false => simpa using Ev.now (([], 41) : List ByteArray × Int)
theorem splitS_long (s : ByteArray) (hr : s.data.toList ≠ [47]) (h : s.size > 64) : splitS s = ([], 41) := by
  unfold splitS
  rw [if_neg hr]
  cases hl : s.data.toList with
  | nil => rfl
  | cons c r => exact if_neg (fun h' => by omega)
theorem refSplit_ev (s : ByteArray) (hs : s.size ≤ 1048576) : Ev (fun k => bursarref04_Split.f k s) (splitS s) := by
  have hbad : ∀ l, Ev (fun k => bursarref04_Split.j0 k l true) ([], 41) := fun l => Ev.step (f := fun _ => some ([], 41)) (fun k => by simp [bursarref04_Split.j0]) (Ev.now _)
  by_cases hr : s.data.toList = [47]
  · unfold splitS
    rw [if_pos hr]
    refine Ev.congr (f := fun _ => some ([], 0)) (fun k => ?_) (Ev.now _)
    unfold bursarref04_Split.f; rw [if_pos (lit_list.2 hr)]
  have hp := pieces_ev s 47 hs
  have hlen := pcs_length_le 47 s.data.toList
  rw [size_list] at hlen
  refine Ev.congr (f := fun k => (bursarref04_pieces.f k s 47).bind fun t => if (s.size : Int) > 64 then bursarref04_Split.j0 k t true else if (t.length : Int) < 2 then bursarref04_Split.j0 k t true else if (t.length : Int) > 9 then bursarref04_Split.j0 k t true else if 0 < (t.length : Int) then bursarref04_Split.j0 k t ((rdOf ByteArray.empty t 0).toList != ([] : List UInt8)) else none) (fun k => ?_) ?_
  · unfold bursarref04_Split.f; rw [if_neg (fun h => hr (lit_list.1 h))]
  refine Ev.bind hp ?_
  simp only [List.length_map]
  by_cases h64 : s.size > 64
  · rw [splitS_long s hr h64]
    refine Ev.congr (fun k => ?_) (hbad ((pcs 47 s.data.toList).map toB))
    rw [if_pos (by omega)]
  unfold splitS
  rw [if_neg hr]
  cases hl : s.data.toList with
  | nil =>
    refine Ev.congr (fun k => ?_) (hbad ((pcs 47 []).map toB))
    rw [if_neg (by omega), if_pos (by simp [pcs])]
  | cons c r =>
    by_cases hc : c = 47
    · subst hc
      rw [pcs_hit]
      have hn1 : 1 ≤ (pcs 47 r).length := by
        cases h : pcs 47 r with
        | nil => exact absurd h (pcs_ne _ _)
        | cons _ _ => simp
      by_cases h8 : (pcs 47 r).length ≤ 8
      · have h := rsloop ([] :: pcs 47 r) (by simp; omega) (by simp) (pcs 47 r).length 1 (by simp; omega) (by omega)
        simp only [List.drop_succ_cons, List.drop_zero] at h
        have e : (if (47 : UInt8) = 47 ∧ s.size ≤ 64 ∧ (pcs 47 r).length ≤ 8 ∧ (pcs 47 r).all nameL = true then ((pcs 47 r).map toB, (0 : Int)) else ([], 41)) = (if (pcs 47 r).all nameL = true then ((pcs 47 r).map toB, (0 : Int)) else ([], 41)) := by
          by_cases ha : (pcs 47 r).all nameL = true
          · rw [if_pos ⟨rfl, by omega, h8, ha⟩, if_pos ha]
          · rw [if_neg (fun h => ha h.2.2.2), if_neg ha]
        show Ev _ (if (47 : UInt8) = 47 ∧ s.size ≤ 64 ∧ (pcs 47 r).length ≤ 8 ∧ (pcs 47 r).all nameL = true then ((pcs 47 r).map toB, (0 : Int)) else ([], 41))
        rw [e]
        refine Ev.congr (f := fun k => bursarref04_Split.j0 k (([] :: pcs 47 r).map toB) false) (fun k => ?_) (Ev.step (fun k => ?_) h)
        · have e0 : ((rdOf ByteArray.empty (([] :: pcs 47 r).map toB) 0).toList != ([] : List UInt8)) = false := by
            have := rd_map ([] :: pcs 47 r) 0 (by simp)
            rw [show (0 : Int) = ((0 : Nat) : Int) from rfl, this, ByteArray.toList_eq]
            rfl
          rw [if_neg (by omega), if_neg (by simp; omega), if_neg (by simp; omega), if_pos (by simp), e0]
        · simp [bursarref04_Split.j0]
      · show Ev _ (if (47 : UInt8) = 47 ∧ s.size ≤ 64 ∧ (pcs 47 r).length ≤ 8 ∧ (pcs 47 r).all nameL = true then ((pcs 47 r).map toB, (0 : Int)) else ([], 41))
        rw [if_neg (fun h => h8 h.2.2.1)]
        refine Ev.congr (fun k => ?_) (hbad (([] :: pcs 47 r).map toB))
        rw [if_neg (by omega), if_neg (by simp; omega), if_pos (by simp; omega)]
    · show Ev _ (if c = 47 ∧ s.size ≤ 64 ∧ (pcs 47 r).length ≤ 8 ∧ (pcs 47 r).all nameL = true then ((pcs 47 r).map toB, (0 : Int)) else ([], 41))
      rw [if_neg (fun h => hc h.1)]
      obtain ⟨p, q, h1, h2⟩ := pcs_cons 47 c r hc
      rw [h2]
      by_cases hq2 : ((c :: p) :: q).length < 2
      · refine Ev.congr (fun k => ?_) (hbad (((c :: p) :: q).map toB))
        rw [if_neg (by omega), if_pos (by omega)]
      by_cases hq9 : ((c :: p) :: q).length > 9
      · refine Ev.congr (fun k => ?_) (hbad (((c :: p) :: q).map toB))
        rw [if_neg (by omega), if_neg (by omega), if_pos (by omega)]
      · refine Ev.congr (fun k => ?_) (hbad (((c :: p) :: q).map toB))
        have e0 : ((rdOf ByteArray.empty (((c :: p) :: q).map toB) 0).toList != ([] : List UInt8)) = true := by
          have := rd_map ((c :: p) :: q) 0 (by simp)
          rw [show (0 : Int) = ((0 : Nat) : Int) from rfl, this, ByteArray.toList_eq]
          rfl
        rw [if_neg (by omega), if_neg (by omega), if_neg (by omega), if_pos (by simp), e0]
end Go.Proofs.YtniolbolfclhkaaDoor.Q
namespace Go.Proofs.YtniolbolfclhkaaDoor.Q
open Go.RowKit Go.Proofs.YtniolbolfclhkaaDoorW.PrintWords Go.Proofs.YtniolbolfclhkaaDoorW.PrintLast Go.Proofs.YtniolbolfclhkaaDoorW.PrintMore Go.Proofs.YtniolbolfclhkaaDoor.Pl
set_option linter.unusedVariables false
set_option linter.unusedSimpArgs false
def toNums (l : List UInt8) : List Int := l.map fun b => (b.toNat : Int)
theorem toNums_len (l : List UInt8) : (toNums l).length = l.length := by unfold toNums; rw [List.length_map]
theorem toNums_app (l : List UInt8) (c : UInt8) : toNums (l ++ [c]) = toNums l ++ [(c.toNat : Int)] := by unfold toNums; simp
theorem str_nums (l : List UInt8) : strOfNums (toNums l) = toB l := str_bytes (toB l)
theorem listB_toB (l : List UInt8) : listB (toB l) = l := by unfold listB toB; simp
def goodN (s : ByteArray) (ps : List (List UInt8)) : Bool := decide (1 ≤ ps.length ∧ ps.length ≤ 8 ∧ s.size ≤ 120)
def finS (s : ByteArray) (r : Option (List (List UInt8))) : List ByteArray × Int := match r with
  | none => ([], 2)
  | some ps => if goodN s ps = true then (ps.map toB, 0) else ([], 2)
theorem two (k : Nat) (h : k < 9000000000000000000) : wrap64 (wrap64 ((k : Int) + 1) + 1) = ((k + 2 : Nat) : Int) := by
  rw [w64 k (by omega), w64 (k + 1) (by omega)]
theorem bt_eq (s : ByteArray) (i : Nat) (h : i < s.size) (c : UInt8) : bt s (i : Int) = (c.toNat : Int) ↔ s[i]'h = c := by
  rw [← bt_get s i h]
  constructor
  · intro e
    exact UInt8.toNat_inj.1 (by omega)
  · intro e; rw [e]
theorem bt_1 (s : ByteArray) (i : Nat) (h : i < s.size) : bt s (i : Int) = 1 ↔ s[i]'h = 1 := bt_eq s i h 1
theorem bt_255 (s : ByteArray) (i : Nat) (h : i < s.size) : bt s (i : Int) = 255 ↔ s[i]'h = 255 := bt_eq s i h 255
theorem bt_0 (s : ByteArray) (i : Nat) (h : i < s.size) : bt s (i : Int) = 0 ↔ s[i]'h = 0 := bt_eq s i h 0
theorem sloop (s : ByteArray) (hs : s.size ≤ 1048576) (d : Nat) : ∀ (i : Nat) (acc : List (List UInt8)) (cur : List UInt8), i + d = s.size → acc.length ≤ i → cur.length ≤ i →
    Ev (fun k => key_Split.l0 k s (acc.map toB) (toNums cur) (i : Int)) (finS s (cutK (s.data.toList.drop i) cur acc)) := by
  induction d using Nat.strongRecOn with
  | _ d ih =>
  intro i acc cur hi ha hc
  match d, ih, hi with
  | 0, ih, hi =>
    rw [List.drop_of_length_le (by rw [size_list]; omega)]
    have e : finS s (cutK [] cur acc) = (if 0 < cur.length then ([], 2) else if acc.length = 0 then ([], 2) else if 8 < acc.length then ([], 2) else if 120 < s.size then ([], 2) else (acc.map toB, 0)) := by
      unfold cutK
      by_cases h1 : cur = []
      · subst h1
        rw [if_pos rfl, if_neg (by simp)]
        unfold finS goodN
        simp only [decide_eq_true_eq]
        repeat' split
        all_goals first | rfl | (exfalso; omega)
      · rw [if_neg h1, if_pos (List.length_pos_iff.2 h1)]
        rfl
    refine Ev.step (f := fun _ => some (finS s (cutK [] cur acc))) (fun k => ?_) (Ev.now _)
    rw [e]
    simp only [key_Split.l0]
    rw [if_neg (by omega), toNums_len, List.length_map]
    repeat' split
    all_goals first | rfl | (exfalso; omega)
  | d + 1, ih, hi =>
    have hlt : i < s.size := by omega
    rw [drop_cons s i hlt]
    by_cases h0 : s[i]'hlt = 0
    · have hb := (bt_0 s i hlt).2 h0
      rw [h0]
      unfold cutK
      rw [if_neg (by simp)]
      by_cases h2 : i + 1 < s.size
      · rw [drop_cons s (i + 1) h2]
        simp only
        have q255 := bt_255 s (i + 1) h2
        have q1 := bt_1 s (i + 1) h2
        by_cases h255 : s[i + 1]'h2 = 255
        · rw [if_pos h255]
          refine Ev.step (f := fun k => key_Split.j1 k s (acc.map toB) (toNums cur) ((i + 1 : Nat) : Int) true) (fun k => ?_) ?_
          · simp only [key_Split.l0]
            rw [if_pos (by omega), if_pos (by omega), if_pos hb, w64 i (by omega), if_pos (by omega), if_pos (by omega), q255.2 h255]
            rfl
          · refine Ev.step (fun k => ?_) (ih (d - 1) (by omega) (i + 2) acc (cur ++ [0]) (by omega) (by omega) (by simp; omega))
            simp only [key_Split.j1]
            rw [if_pos trivial, toNums_len, if_pos (by omega), w64 (i + 1) (by omega), toNums_app]
            rfl
        · rw [if_neg h255]
          have hj : ∀ k, key_Split.l0 (k + 1) s (acc.map toB) (toNums cur) (i : Int) = key_Split.j1 k s (acc.map toB) (toNums cur) ((i + 1 : Nat) : Int) false := fun k => by
            simp only [key_Split.l0]
            rw [if_pos (by omega), if_pos (by omega), if_pos hb, w64 i (by omega), if_pos (by omega), if_pos (by omega), beq_eq_false_iff_ne.2 (fun e => h255 (q255.1 e))]
          refine Ev.step hj ?_
          by_cases h1 : s[i + 1]'h2 = 1
          · rw [if_pos h1]
            refine Ev.step (fun k => ?_) (ih (d - 1) (by omega) (i + 2) (acc ++ [cur]) [] (by omega) (by simp; omega) (by simp))
            simp only [key_Split.j1]
            rw [if_neg (by decide), if_pos (by omega), if_pos (by omega), if_pos (q1.2 h1), List.length_map, if_pos (by omega), str_nums, w64 (i + 1) (by omega), List.map_append]
            rfl
          · rw [if_neg h1]
            refine Ev.step (f := fun _ => some ([], 2)) (fun k => ?_) (Ev.now _)
            simp only [key_Split.j1]
            rw [if_neg (by decide), if_pos (by omega), if_pos (by omega), if_neg (fun e => h1 (q1.1 e))]
      · rw [List.drop_of_length_le (by rw [size_list]; omega)]
        refine Ev.step (f := fun k => key_Split.j1 k s (acc.map toB) (toNums cur) ((i + 1 : Nat) : Int) false) (fun k => ?_) ?_
        · simp only [key_Split.l0]
          rw [if_pos (by omega), if_pos (by omega), if_pos hb, w64 i (by omega), if_neg (by omega)]
        · refine Ev.step (f := fun _ => some ([], 2)) (fun k => ?_) (Ev.now _)
          simp only [key_Split.j1]
          rw [if_neg (by decide), if_neg (by omega)]
    · have hb : ¬ bt s (i : Int) = 0 := fun e => h0 ((bt_0 s i hlt).1 e)
      unfold cutK
      rw [if_pos h0]
      refine Ev.step (fun k => ?_) (ih d (by omega) (i + 1) acc (cur ++ [s[i]'hlt]) (by omega) (by omega) (by simp; omega))
      simp only [key_Split.l0]
      rw [if_pos (by omega), if_pos (by omega), if_neg hb, toNums_len, if_pos (by omega), w64 i (by omega), toNums_app, bt_get s i hlt]
theorem split_f (s : ByteArray) (hs : s.size ≤ 1048576) : Ev (fun k => key_Split.f k s) (finS s (cutK (listB s) [] [])) :=
  sloop s hs s.size 0 [] [] (by omega) (by simp) (by simp)
def makeS (ps : List (List UInt8)) : ByteArray × Int := if 1 ≤ ps.length ∧ ps.length ≤ 8 then (if (makeK ps).length ≤ 120 then (toB (makeK ps), 0) else (⟨#[]⟩, 23)) else (⟨#[]⟩, 1)
theorem esc_cons (c : UInt8) (r : List UInt8) : esc (c :: r) = if c = 0 then 0 :: 255 :: esc r else c :: esc r := rfl
theorem rd_mapB (ps : List (List UInt8)) (i : Nat) (h : i < ps.length) : rdOf ByteArray.empty (ps.map toB) (i : Int) = toB (ps[i]'h) := by
  unfold rdOf
  rw [Int.toNat_natCast, List.getD_eq_getElem?_getD, List.getElem?_map, List.getElem?_eq_getElem h]
  rfl
theorem toB_sizeB (l : List UInt8) : (toB l).size = l.length := by
  show l.toArray.size = _
  simp
theorem toB_get (l : List UInt8) (j : Nat) (h : j < l.length) : bt (toB l) (j : Int) = ((l[j]'h).toNat : Int) := by
  rw [← bt_get (toB l) j (by rw [toB_sizeB]; exact h)]
  rfl
theorem toNums_two (out : List UInt8) (a b : UInt8) : toNums (out ++ [a, b]) = toNums out ++ [(a.toNat : Int), (b.toNat : Int)] := by unfold toNums; simp
theorem mloop (ps : List (List UInt8)) (hn : ps.length ≤ 1000000000) (d : Nat) : ∀ (i : Nat) (out : List UInt8), i + d = ps.length → out.length + (makeK (ps.drop i)).length ≤ 1000000000 →
    Ev (fun k => bursarref05_Make.l0 k (ps.map toB) (toNums out) (i : Int)) (if (out ++ makeK (ps.drop i)).length ≤ 120 then (toB (out ++ makeK (ps.drop i)), 0) else (⟨#[]⟩, 23)) := by
  induction d with
  | zero =>
    intro i out hi hl
    rw [List.drop_of_length_le (by omega)]
    have e : out ++ makeK [] = out := List.append_nil _
    rw [e]
    refine Ev.step (f := fun _ => some _) (fun k => ?_) (Ev.now _)
    simp only [bursarref05_Make.l0]
    rw [List.length_map, if_neg (by omega), toNums_len, str_nums]
    by_cases h : out.length ≤ 120
    · rw [if_pos h, if_neg (by omega)]
    · rw [if_neg h, if_pos (by omega)]
  | succ d ih =>
    intro i out hi hl
    have hlt : i < ps.length := by omega
    have hd : ps.drop i = ps[i]'hlt :: ps.drop (i + 1) := List.drop_eq_getElem_cons hlt
    rw [hd] at hl ⊢
    have hmk : makeK (ps[i]'hlt :: ps.drop (i + 1)) = esc (ps[i]'hlt) ++ 0 :: 1 :: makeK (ps.drop (i + 1)) := rfl
    rw [hmk] at hl ⊢
    simp only [List.length_append, List.length_cons] at hl
    have hrd := rd_mapB ps i hlt
    have hsmall : ∀ p : List UInt8, p.length ≤ (esc p).length := fun p => by
      induction p with
      | nil => exact Nat.le_refl _
      | cons c r ihp => rw [esc_cons]; split <;> simp only [List.length_cons] <;> omega
    generalize hp : ps[i]'hlt = p at hl hrd ⊢
    have hps := hsmall p
    -- the part's bytes
    have inner : ∀ (e j : Nat) (o : List UInt8), j + e = p.length → o.length + (esc (p.drop j)).length + 2 + (makeK (ps.drop (i + 1))).length ≤ 1000000000 →
        Ev (fun k => bursarref05_Make.l1 k (ps.map toB) (toNums o) (i : Int) (j : Int)) (if (o ++ (esc (p.drop j) ++ 0 :: 1 :: makeK (ps.drop (i + 1)))).length ≤ 120 then (toB (o ++ (esc (p.drop j) ++ 0 :: 1 :: makeK (ps.drop (i + 1)))), 0) else (⟨#[]⟩, 23)) := by
      intro e
      induction e with
      | zero =>
        intro j o hj hol
        rw [List.drop_of_length_le (by omega)] at hol ⊢
        have e1 : o ++ (esc [] ++ 0 :: 1 :: makeK (ps.drop (i + 1))) = (o ++ [0, 1]) ++ makeK (ps.drop (i + 1)) := by simp [esc]
        rw [e1]
        refine Ev.step (fun k => ?_) (ih (i + 1) (o ++ [0, 1]) (by omega) (by simp; omega))
        simp only [bursarref05_Make.l1]
        rw [if_pos (by omega), List.length_map, if_pos (by omega), hrd, toB_sizeB, if_neg (by omega), Option.bind_some, toNums_len, if_pos (by simp; omega), w64 i (by omega), toNums_two]
        rfl
      | succ e ihe =>
        intro j o hj hol
        have hjl : j < p.length := by omega
        have hdj : p.drop j = p[j]'hjl :: p.drop (j + 1) := List.drop_eq_getElem_cons hjl
        rw [hdj, esc_cons] at hol ⊢
        have hb := toB_get p j hjl
        generalize p[j]'hjl = c at hol hb ⊢
        by_cases h0 : c = 0
        · rw [if_pos h0] at hol ⊢
          subst h0
          simp only [List.length_cons] at hol
          have e1 : o ++ (0 :: 255 :: esc (p.drop (j + 1)) ++ 0 :: 1 :: makeK (ps.drop (i + 1))) = (o ++ [0, 255]) ++ (esc (p.drop (j + 1)) ++ 0 :: 1 :: makeK (ps.drop (i + 1))) := by simp
          rw [e1]
          refine Ev.step (fun k => ?_) (ihe (j + 1) (o ++ [0, 255]) (by omega) (by simp; omega))
          have hb0 : bt (toB p) (j : Int) = 0 := hb
          simp only [bursarref05_Make.l1]
          rw [if_pos (by omega), List.length_map, if_pos (by omega), hrd, toB_sizeB, if_pos (by omega), if_pos (by omega), toNums_len, if_pos (by omega), Option.bind_some, hb0, if_pos rfl, if_pos (by simp [toNums_len]; omega), w64 j (by omega), toNums_two]
          simp
        · rw [if_neg h0] at hol ⊢
          simp only [List.length_cons] at hol
          have e1 : o ++ (c :: esc (p.drop (j + 1)) ++ 0 :: 1 :: makeK (ps.drop (i + 1))) = (o ++ [c]) ++ (esc (p.drop (j + 1)) ++ 0 :: 1 :: makeK (ps.drop (i + 1))) := by simp
          rw [e1]
          refine Ev.step (fun k => ?_) (ihe (j + 1) (o ++ [c]) (by omega) (by simp; omega))
          have hb0 : ¬ bt (toB p) (j : Int) = 0 := fun e => h0 (UInt8.toNat_inj.1 (by have : (0 : UInt8).toNat = 0 := rfl; omega))
          simp only [bursarref05_Make.l1]
          rw [if_pos (by omega), List.length_map, if_pos (by omega), hrd, toB_sizeB, if_pos (by omega), if_pos (by omega), toNums_len, if_pos (by omega), Option.bind_some, if_neg hb0, w64 j (by omega), toNums_app, hb]
    refine Ev.step (f := fun k => bursarref05_Make.l1 k (ps.map toB) (toNums out) (i : Int) ((0 : Nat) : Int)) (fun k => ?_) ?_
    · simp only [bursarref05_Make.l0]
      rw [List.length_map, if_pos (by omega)]
      rfl
    · have := inner p.length 0 out (by omega) (by rw [List.drop_zero]; omega)
      rw [List.drop_zero] at this
      exact this
theorem refMake_ev (ps : List (List UInt8)) (hn : (makeK ps).length ≤ 1000000000) : Ev (fun k => bursarref05_Make.f k (ps.map toB)) (makeS ps) := by
  have h2 := makeK_len ps
  unfold makeS
  by_cases hg : 1 ≤ ps.length ∧ ps.length ≤ 8
  · rw [if_pos hg]
    refine Ev.congr (f := fun k => bursarref05_Make.j0 k (ps.map toB) false) (fun k => ?_) ?_
    · unfold bursarref05_Make.f
      rw [List.length_map, if_neg (by omega), decide_eq_false (by omega)]
    · refine Ev.step (f := fun k => bursarref05_Make.l0 k (ps.map toB) (toNums []) ((0 : Nat) : Int)) (fun k => ?_) ?_
      · simp only [bursarref05_Make.j0]
        rw [if_neg (by decide)]
        rfl
      · have := mloop ps (by omega) ps.length 0 [] (by omega) (by simpa using hn)
        rw [List.drop_zero, List.nil_append] at this
        exact this
  · rw [if_neg hg]
    refine Ev.congr (f := fun k => bursarref05_Make.j0 k (ps.map toB) true) (fun k => ?_) ?_
    · unfold bursarref05_Make.f
      rw [List.length_map]
      by_cases h : (ps.length : Int) < 1
      · rw [if_pos h]
      · rw [if_neg h, decide_eq_true (by omega)]
    · refine Ev.step (f := fun _ => some (⟨#[]⟩, 1)) (fun k => ?_) (Ev.now _)
      simp only [bursarref05_Make.j0]
      rw [if_pos trivial]
theorem esc_len (p : List UInt8) : (esc p).length ≤ 2 * p.length := by
  induction p with
  | nil => exact Nat.le_refl _
  | cons c r ih => rw [esc_cons]; split <;> simp only [List.length_cons] <;> omega
def finR (s : ByteArray) (ps : List (List UInt8)) : List ByteArray × Int := if (makeS ps).2 = 0 ∧ (makeS ps).1 = s then (ps.map toB, 0) else ([], 2)
theorem rloop (s : ByteArray) (hs : s.size ≤ 1048576) (d : Nat) : ∀ (i : Nat) (acc : List (List UInt8)) (cur : List UInt8), i + d = s.size → acc.length ≤ i → cur.length ≤ i → (makeK acc).length + 2 * cur.length ≤ 2 * i →
    Ev (fun k => bursarref05_Split.l0 k s (acc.map toB) (toNums cur) (i : Int)) (finR s (looseK (s.data.toList.drop i) cur acc)) := by
  induction d using Nat.strongRecOn with
  | _ d ih =>
  intro i acc cur hi ha hc hm
  have hend : ∀ (i : Nat) (acc : List (List UInt8)) (cur : List UInt8), ¬ i < s.size → (makeK acc).length ≤ 1000000000 → Ev (fun k => bursarref05_Split.l0 k s (acc.map toB) (toNums cur) (i : Int)) (finR s acc) := by
    intro i acc cur hi hm
    refine Ev.step (f := fun k => (bursarref05_Make.f k (acc.map toB)).bind fun b => if b.2 = 0 then (if b.1.toList = s.toList then some (acc.map toB, 0) else some ([], 2)) else some ([], 2)) (fun k => ?_) ?_
    · simp only [bursarref05_Split.l0]
      rw [if_neg (by omega)]
    · refine Ev.bind (refMake_ev acc hm) (Ev.congr (fun k => ?_) (Ev.now _))
      have hx := ba_iff (makeS acc).1 s
      unfold finR
      by_cases h1 : (makeS acc).2 = 0
      · rw [if_pos h1]
        by_cases h2 : (makeS acc).1 = s
        · rw [if_pos (hx.2 h2), if_pos ⟨h1, h2⟩]
        · rw [if_neg (fun e => h2 (hx.1 e)), if_neg (fun e => h2 e.2)]
      · rw [if_neg h1, if_neg (fun e => h1 e.1)]
  match d, ih, hi with
  | 0, ih, hi =>
    rw [List.drop_of_length_le (by rw [size_list]; omega)]
    unfold looseK
    exact hend i acc cur (by omega) (by omega)
  | d + 1, ih, hi =>
    have hlt : i < s.size := by omega
    rw [drop_cons s i hlt]
    by_cases h0 : s[i]'hlt = 0
    · have hb := (bt_0 s i hlt).2 h0
      rw [h0]
      by_cases h2 : i + 1 < s.size
      · rw [drop_cons s (i + 1) h2]
        unfold looseK
        rw [if_neg (by simp)]
        have q1 := bt_1 s (i + 1) h2
        by_cases h1 : s[i + 1]'h2 = 1
        · rw [if_pos h1]
          have h4 := esc_len cur
          refine Ev.step (fun k => ?_) (ih (d - 1) (by omega) (i + 2) (acc ++ [cur]) [] (by omega) (by simp; omega) (by simp) (by rw [makeK_snoc]; simp; omega))
          simp only [bursarref05_Split.l0]
          rw [if_pos (by omega), if_pos (by omega), if_pos hb, two i (by omega), w64 i (by omega), if_pos (by omega), if_pos (by omega), if_pos (q1.2 h1), List.length_map, if_pos (by omega), str_nums, List.map_append]
          rfl
        · rw [if_neg h1]
          refine Ev.step (fun k => ?_) (ih (d - 1) (by omega) (i + 2) acc (cur ++ [0]) (by omega) (by omega) (by simp; omega) (by simp; omega))
          simp only [bursarref05_Split.l0]
          rw [if_pos (by omega), if_pos (by omega), if_pos hb, two i (by omega), w64 i (by omega), if_pos (by omega), if_pos (by omega), if_neg (fun e => h1 (q1.1 e)), toNums_len, if_pos (by omega), toNums_app]
          rfl
      · rw [List.drop_of_length_le (by rw [size_list]; omega)]
        unfold looseK
        rw [if_neg (by simp)]
        refine Ev.step (fun k => ?_) (hend (i + 2) acc (cur ++ [0]) (by omega) (by omega))
        simp only [bursarref05_Split.l0]
        rw [if_pos (by omega), if_pos (by omega), if_pos hb, two i (by omega), w64 i (by omega), if_neg (by omega), toNums_len, if_pos (by omega), toNums_app]
        rfl
    · have hb : ¬ bt s (i : Int) = 0 := fun e => h0 ((bt_0 s i hlt).1 e)
      have e : looseK (s[i]'hlt :: s.data.toList.drop (i + 1)) cur acc = looseK (s.data.toList.drop (i + 1)) (cur ++ [s[i]'hlt]) acc := by
        cases s.data.toList.drop (i + 1) with
        | nil => conv => lhs; unfold looseK
                 rw [if_pos h0]
        | cons a b => conv => lhs; unfold looseK
                      rw [if_pos h0]
      rw [e]
      refine Ev.step (fun k => ?_) (ih d (by omega) (i + 1) acc (cur ++ [s[i]'hlt]) (by omega) (by omega) (by simp; omega) (by simp; omega))
      simp only [bursarref05_Split.l0]
      rw [if_pos (by omega), if_pos (by omega), if_neg hb, toNums_len, if_pos (by omega), w64 i (by omega), toNums_app, bt_get s i hlt]
theorem toB_listB (s : ByteArray) : toB (listB s) = s := ba_ext (by unfold toB listB; simp)
theorem fin_same (s : ByteArray) : finS s (cutK (listB s) [] []) = finR s (looseK (listB s) [] []) := by
  have h := cut_same (listB s) (goodN s)
  generalize looseK (listB s) [] [] = ps at h ⊢
  have hz : makeK ps = listB s → (makeK ps).length = s.size := fun e => by rw [e, listB_len]
  have hq : ((makeS ps).2 = 0 ∧ (makeS ps).1 = s) ↔ (makeK ps = listB s ∧ goodN s ps = true) := by
    unfold makeS goodN
    rw [decide_eq_true_iff]
    constructor
    · intro ⟨h1, h2⟩
      by_cases hg : 1 ≤ ps.length ∧ ps.length ≤ 8
      · rw [if_pos hg] at h1 h2
        by_cases hk : (makeK ps).length ≤ 120
        · rw [if_pos hk] at h2
          have e : makeK ps = listB s := by
            simp only at h2
            rw [← h2, listB_toB]
          have := hz e
          exact ⟨e, hg.1, hg.2, by omega⟩
        · rw [if_neg hk] at h1
          exact absurd h1 (by decide)
      · rw [if_neg hg] at h1
        exact absurd h1 (by decide)
    · intro ⟨e, h1, h2, h3⟩
      have := hz e
      rw [if_pos ⟨h1, h2⟩, if_pos (by omega)]
      exact ⟨rfl, by rw [e, toB_listB]⟩
  have e2 : finR s ps = if makeK ps = listB s ∧ goodN s ps = true then (ps.map toB, 0) else ([], 2) := by
    unfold finR
    by_cases hc : makeK ps = listB s ∧ goodN s ps = true
    · rw [if_pos hc, if_pos (hq.2 hc)]
    · rw [if_neg hc, if_neg (fun e => hc (hq.1 e))]
  rw [e2]
  cases hcut : cutK (listB s) [] [] with
  | none =>
    rw [hcut] at h
    by_cases hc : makeK ps = listB s ∧ goodN s ps = true
    · rw [if_pos hc] at h
      cases h
    · rw [if_neg hc]
      rfl
  | some qs =>
    rw [hcut] at h
    simp only at h
    unfold finS
    simp only
    by_cases hg : goodN s qs = true
    · rw [if_pos hg] at h ⊢
      by_cases hc : makeK ps = listB s ∧ goodN s ps = true
      · rw [if_pos hc] at h ⊢
        cases h
        rfl
      · rw [if_neg hc] at h
        cases h
    · rw [if_neg hg] at h ⊢
      by_cases hc : makeK ps = listB s ∧ goodN s ps = true
      · rw [if_pos hc] at h
        cases h
      · rw [if_neg hc]
def cutS (s : ByteArray) : List ByteArray × Int := finS s (cutK (listB s) [] [])
theorem keySplit_ev (s : ByteArray) (hs : s.size ≤ 1048576) : Ev (fun k => key_Split.f k s) (cutS s) := split_f s hs
theorem refKeySplit_ev (s : ByteArray) (hs : s.size ≤ 1048576) : Ev (fun k => bursarref05_Split.f k s) (cutS s) := by
  unfold cutS
  rw [fin_same]
  exact rloop s hs s.size 0 [] [] (by omega) (by simp) (by simp) (by simp [makeK])
end Go.Proofs.YtniolbolfclhkaaDoor.Q
namespace Go.Proofs.YtniolbolfclhkaaDoor.Q
open Go.RowKit Go.Proofs.YtniolbolfclhkaaDoorW.PrintWords Go.Proofs.YtniolbolfclhkaaDoorW.PrintLast Go.Proofs.YtniolbolfclhkaaDoorW.PrintMore Go.Proofs.YtniolbolfclhkaaDoor.Pl
set_option linter.unusedVariables false
set_option linter.unusedSimpArgs false
theorem refPath_ev (s : ByteArray) (hs : s.size ≤ 1048576) : Ev (fun k => bursarref04_Path.f k s) (pathS s) :=
  Ev.congr (fun k => rfl) (Ev.bind (refSplit_ev s hs) (f := fun (_ : Nat) (b : List ByteArray × Int) => some b.2) (Ev.now _))
theorem letter_ext {k : Nat} (hk : k ≤ 4) : (⟨#[110, 113, 108, 111, 98]⟩ : ByteArray).extract (k : Int).toNat ((wrap64 ((k : Int) + 1)) : Int).toNat = letB k := by
  rw [w64 k (by omega), Int.toNat_natCast, Int.toNat_natCast]
  rfl
theorem make3_ev {kind : Nat} {p n : ByteArray} (hk : kind ≤ 4) (hp : pathS p = 0) (hn : (0 : UInt8) ∉ listB n) (hs : n.size ≤ 32) : Ev (fun k => bursarref05_Make.f k [letB kind, p, n]) (toB (keyL kind p n), 0) := by
  have hlen := keyL_len hk hp hn hs
  have e : keyL kind p n = makeK [listB (letB kind), listB p, listB n] := rfl
  have h := refMake_ev [listB (letB kind), listB p, listB n] (by rw [← e]; omega)
  have e2 : [listB (letB kind), listB p, listB n].map toB = [letB kind, p, n] := by
    simp only [List.map_cons, List.map_nil, toB_listB]
  rw [e2] at h
  have e3 : makeS [listB (letB kind), listB p, listB n] = (toB (keyL kind p n), 0) := by
    unfold makeS
    rw [if_pos (by simp), ← e, if_pos (by omega)]
  rw [e3] at h
  exact h
theorem key_good {kind : Int} {p n : ByteArray} (h : okKey kind p n = true) : keyS kind p n = toB (keyL kind.toNat p n) ∧ keyE kind p n = 0 := by
  unfold keyS keyE
  rw [if_pos h, if_pos h]
  exact ⟨rfl, rfl⟩
theorem key_bad {kind : Int} {p n : ByteArray} (h : ¬ okKey kind p n = true) : keyS kind p n = ⟨#[]⟩ ∧ keyE kind p n = (if 0 ≤ kind ∧ kind ≤ 4 then (if pathS p = 0 then 40 else 41) else 1) := by
  unfold keyS keyE
  rw [if_neg h, if_neg h]
  exact ⟨rfl, rfl⟩
theorem refKey_ev (kind : Int) (p n : ByteArray) (hp : p.size ≤ 1048576) : Ev (fun k => bursarref13_Key.f k kind p n) (keyS kind p n, keyE kind p n) := by
  by_cases hk : 0 ≤ kind ∧ kind ≤ 4
  rotate_left
  · have hb : ¬ okKey kind p n = true := by unfold okKey; rw [decide_eq_false hk, Bool.false_and]; decide
    rw [(key_bad hb).1, (key_bad hb).2, if_neg hk]
    refine Ev.congr (f := fun k => bursarref13_Key.j0 k kind p n true) (fun k => ?_) ?_
    · unfold bursarref13_Key.f
      by_cases h : kind < 0
      · rw [if_pos h]
      · rw [if_neg h, decide_eq_true (by omega)]
    · refine Ev.step (f := fun _ => some (⟨#[]⟩, 1)) (fun k => ?_) (Ev.now _)
      simp only [bursarref13_Key.j0]
      rw [if_pos trivial]
  obtain ⟨m, rfl⟩ := Int.eq_ofNat_of_zero_le hk.1
  have hm : m ≤ 4 := by omega
  have hok : okKey (m : Int) p n = (decide (pathS p = 0) && (if (m : Int) = 0 then decide (n = ⟨#[]⟩) else nameB n)) := by
    unfold okKey
    rw [decide_eq_true hk, Bool.true_and]
  refine Ev.congr (f := fun k => bursarref13_Key.j0 k (m : Int) p n false) (fun k => ?_) ?_
  · unfold bursarref13_Key.f
    rw [if_neg (by omega), decide_eq_false (by omega)]
  have hmk : okKey (m : Int) p n = true → Ev (fun k => if 0 ≤ (m : Int) then (if (m : Int) ≤ (wrap64 ((m : Int) + 1)) then (if (wrap64 ((m : Int) + 1)) ≤ 5 then ((bursarref05_Make.f k (([(⟨#[110, 113, 108, 111, 98]⟩ : ByteArray).extract ((m : Int) : Int).toNat ((wrap64 ((m : Int) + 1)) : Int).toNat, p, n] : List ByteArray))).bind fun b => (some (b.1, b.2))) else (none)) else (none)) else (none)) (keyS (m : Int) p n, keyE (m : Int) p n) := by
    intro ho
    obtain ⟨_, q2, q3, q4⟩ := okKey_parts ho
    rw [(key_good ho).1, (key_good ho).2, letter_ext hm, Int.toNat_natCast]
    refine Ev.congr (f := fun k => (bursarref05_Make.f k [letB m, p, n]).bind fun b => some (b.1, b.2)) (fun k => ?_) (Ev.bind (make3_ev hm q2 q3 q4) (Ev.now _))
    rw [w64 m (by omega), if_pos (by omega), if_pos (by omega), if_pos (by omega)]
  refine Ev.step (fun k => by simp only [bursarref13_Key.j0]; rw [if_neg (by decide)]) ?_
  refine Ev.bind (refPath_ev p hp) ?_
  by_cases hpa : pathS p = 0
  · by_cases h0 : (m : Int) = 0
    · by_cases hn : n = ⟨#[]⟩
      · refine Ev.congr (fun k => ?_) (hmk (by rw [hok, if_pos h0, decide_eq_true hpa, decide_eq_true hn]; rfl))
        rw [if_pos hpa, if_pos h0, if_pos (lit_list.2 (by rw [hn]))]
      · have hb : ¬ okKey (m : Int) p n = true := by rw [hok, if_pos h0, decide_eq_false hn, Bool.and_false]; decide
        rw [(key_bad hb).1, (key_bad hb).2, if_pos hk, if_pos hpa]
        refine Ev.congr (f := fun _ => some (⟨#[]⟩, 40)) (fun k => ?_) (Ev.now _)
        rw [if_pos hpa, if_pos h0, if_neg (fun e => hn (ba_ext (lit_list.1 e)))]
    · refine Ev.congr (f := fun k => (bursarref04_Name.f k n).bind fun t => (if t = true then (if 0 ≤ (m : Int) then (if (m : Int) ≤ (wrap64 ((m : Int) + 1)) then (if (wrap64 ((m : Int) + 1)) ≤ 5 then ((bursarref05_Make.f k (([(⟨#[110, 113, 108, 111, 98]⟩ : ByteArray).extract ((m : Int) : Int).toNat ((wrap64 ((m : Int) + 1)) : Int).toNat, p, n] : List ByteArray))).bind fun b => (some (b.1, b.2))) else (none)) else (none)) else (none)) else (some ((⟨#[]⟩ : ByteArray), 40)))) (fun k => ?_) ?_
      · rw [if_pos hpa, if_neg h0]
      · refine Ev.bind (name_ev n) ?_
        by_cases hn : nameB n = true
        · refine Ev.congr (fun k => ?_) (hmk (by rw [hok, if_neg h0, decide_eq_true hpa, hn]; rfl))
          rw [if_pos hn]
        · have hb : ¬ okKey (m : Int) p n = true := by rw [hok, if_neg h0, Bool.eq_false_iff.2 hn, Bool.and_false]; decide
          rw [(key_bad hb).1, (key_bad hb).2, if_pos hk, if_pos hpa]
          refine Ev.congr (f := fun _ => some (⟨#[]⟩, 40)) (fun k => ?_) (Ev.now _)
          rw [if_neg hn]
  · have hb : ¬ okKey (m : Int) p n = true := by rw [hok, decide_eq_false hpa, Bool.false_and]; decide
    rw [(key_bad hb).1, (key_bad hb).2, if_pos hk, if_neg hpa]
    refine Ev.congr (f := fun _ => some (⟨#[]⟩, 41)) (fun k => ?_) (Ev.now _)
    rw [if_neg hpa]
def unkG (s p n : ByteArray) : Nat → Nat → Int × ByteArray × ByteArray × Int
  | 0, _ => (0, ⟨#[]⟩, ⟨#[]⟩, 2)
  | d + 1, i => if keyE (i : Int) p n = 0 then (if keyS (i : Int) p n = s then ((i : Int), p, n, 0) else unkG s p n d (i + 1)) else unkG s p n d (i + 1)
def unkR (s : ByteArray) : Int × ByteArray × ByteArray × Int :=
  if (cutS s).2 = 0 ∧ (cutS s).1.length = 3 then unkG s (rdOf ByteArray.empty (cutS s).1 1) (rdOf ByteArray.empty (cutS s).1 2) 5 0 else (0, ⟨#[]⟩, ⟨#[]⟩, 2)
theorem part_le : ∀ (qs : List (List UInt8)) (q : List UInt8), q ∈ qs → q.length ≤ (makeK qs).length
  | [], q, h => by simp at h
  | a :: r, q, h => by
    have hsmall : ∀ p : List UInt8, p.length ≤ (esc p).length := fun p => by
      induction p with
      | nil => exact Nat.le_refl _
      | cons c r ihp => rw [esc_cons]; split <;> simp only [List.length_cons] <;> omega
    simp only [makeK, List.length_append, List.length_cons]
    rcases List.mem_cons.1 h with rfl | h
    · have := hsmall q; omega
    · have := part_le r q h; omega
theorem cutS_parts (s : ByteArray) : ∀ p ∈ (cutS s).1, p.size ≤ s.size := by
  intro p hp
  unfold cutS at hp
  cases hc : cutK (listB s) [] [] with
  | none => rw [hc] at hp; simp [finS] at hp
  | some qs =>
    rw [hc] at hp
    unfold finS at hp
    simp only at hp
    split at hp
    · obtain ⟨q, hq, rfl⟩ := List.mem_map.1 hp
      have h1 := part_le qs q hq
      have h2 := (cutK_iff _ _).1 hc
      rw [← h2, listB_len] at h1
      rw [toB_sizeB]
      exact h1
    · simp at hp
theorem rdOf_small {l : List ByteArray} {m : Nat} (h : ∀ p ∈ l, p.size ≤ m) (i : Int) : (rdOf ByteArray.empty l i).size ≤ m := by
  unfold rdOf
  rw [List.getD_eq_getElem?_getD]
  cases hx : l[i.toNat]? with
  | none => exact Nat.zero_le _
  | some p => exact h p (List.mem_of_getElem? hx)
theorem uloop (s : ByteArray) (ps : List ByteArray) (h3 : ps.length = 3) (d : Nat) : ∀ i : Nat, i + d = 5 → Ev (fun k => object_Unkey.l0 k s ps (i : Int)) (unkG s (rdOf ByteArray.empty ps 1) (rdOf ByteArray.empty ps 2) d i) := by
  induction d with
  | zero =>
    intro i hi
    refine Ev.step (f := fun _ => some (0, ⟨#[]⟩, ⟨#[]⟩, 2)) (fun k => ?_) (Ev.now _)
    simp only [object_Unkey.l0]
    rw [if_neg (by omega)]
  | succ d ih =>
    intro i hi
    have hn := ih (i + 1) (by omega)
    rw [unkG]
    have hx := ba_iff (keyS (i : Int) (rdOf ByteArray.empty ps 1) (rdOf ByteArray.empty ps 2)) s
    have hst : ∀ k, object_Unkey.l0 (k + 1) s ps (i : Int) = (if keyE (i : Int) (rdOf ByteArray.empty ps 1) (rdOf ByteArray.empty ps 2) = 0 then (if (keyS (i : Int) (rdOf ByteArray.empty ps 1) (rdOf ByteArray.empty ps 2)).toList = s.toList then (some ((i : Int), rdOf ByteArray.empty ps 1, rdOf ByteArray.empty ps 2, 0)) else object_Unkey.l0 k s ps ((i + 1 : Nat) : Int)) else object_Unkey.l0 k s ps ((i + 1 : Nat) : Int)) := fun k => by
      simp only [object_Unkey.l0]
      rw [if_pos (by omega), if_pos (by omega), if_pos (by omega), w64 i (by omega)]
      rfl
    by_cases h1 : keyE (i : Int) (rdOf ByteArray.empty ps 1) (rdOf ByteArray.empty ps 2) = 0
    · rw [if_pos h1]
      by_cases h2 : keyS (i : Int) (rdOf ByteArray.empty ps 1) (rdOf ByteArray.empty ps 2) = s
      · rw [if_pos h2]
        exact Ev.step (f := fun _ => some _) (fun k => by rw [hst, if_pos h1, if_pos (hx.2 h2)]) (Ev.now _)
      · rw [if_neg h2]
        exact Ev.step (fun k => by rw [hst, if_pos h1, if_neg (fun e => h2 (hx.1 e))]) hn
    · rw [if_neg h1]
      exact Ev.step (fun k => by rw [hst, if_neg h1]) hn
theorem ruloop (s : ByteArray) (ps : List ByteArray) (hp : ∀ p ∈ ps, p.size ≤ 1048576) (h3 : ps.length = 3) (d : Nat) : ∀ i : Nat, i + d = 5 → Ev (fun k => bursarref13_Unkey.l0 k s ps (i : Int)) (unkG s (rdOf ByteArray.empty ps 1) (rdOf ByteArray.empty ps 2) d i) := by
  induction d with
  | zero =>
    intro i hi
    refine Ev.step (f := fun _ => some (0, ⟨#[]⟩, ⟨#[]⟩, 2)) (fun k => ?_) (Ev.now _)
    simp only [bursarref13_Unkey.l0]
    rw [if_neg (by omega)]
  | succ d ih =>
    intro i hi
    have hn := ih (i + 1) (by omega)
    rw [unkG]
    have hx := ba_iff (keyS (i : Int) (rdOf ByteArray.empty ps 1) (rdOf ByteArray.empty ps 2)) s
    refine Ev.step (f := fun k => (bursarref13_Key.f k (i : Int) (rdOf ByteArray.empty ps 1) (rdOf ByteArray.empty ps 2)).bind fun b => if b.2 = 0 then (if b.1.toList = s.toList then (some ((i : Int), rdOf ByteArray.empty ps 1, rdOf ByteArray.empty ps 2, 0)) else bursarref13_Unkey.l0 k s ps ((i + 1 : Nat) : Int)) else bursarref13_Unkey.l0 k s ps ((i + 1 : Nat) : Int)) (fun k => ?_) ?_
    · simp only [bursarref13_Unkey.l0]
      rw [if_pos (by omega), if_pos (by omega), if_pos (by omega), w64 i (by omega)]
    refine Ev.bind (refKey_ev (i : Int) _ _ (rdOf_small hp 1)) ?_
    by_cases h1 : keyE (i : Int) (rdOf ByteArray.empty ps 1) (rdOf ByteArray.empty ps 2) = 0
    · rw [if_pos h1]
      by_cases h2 : keyS (i : Int) (rdOf ByteArray.empty ps 1) (rdOf ByteArray.empty ps 2) = s
      · rw [if_pos h2]
        exact Ev.congr (f := fun _ => some _) (fun k => by rw [if_pos h1, if_pos (hx.2 h2)]) (Ev.now _)
      · rw [if_neg h2]
        exact Ev.congr (fun k => by rw [if_pos h1, if_neg (fun e => h2 (hx.1 e))]) hn
    · rw [if_neg h1]
      exact Ev.congr (fun k => by rw [if_neg h1]) hn
theorem unkey_ev (s : ByteArray) (hs : s.size ≤ 1048576) : Ev (fun k => object_Unkey.f k s) (unkR s) := by
  have hbad : ∀ ps, Ev (fun k => object_Unkey.j0 k s ps true) (0, ⟨#[]⟩, ⟨#[]⟩, 2) := fun ps => Ev.step (f := fun _ => some _) (fun k => by simp only [object_Unkey.j0]; rw [if_pos trivial]) (Ev.now _)
  refine Ev.bind (f := fun k b => if b.2 = 0 then object_Unkey.j0 k s b.1 ((b.1.length : Int) != 3) else object_Unkey.j0 k s b.1 true) (keySplit_ev s hs) ?_
  unfold unkR
  generalize cutS s = r
  by_cases h0 : r.2 = 0
  · by_cases h3 : r.1.length = 3
    · rw [if_pos ⟨h0, h3⟩]
      refine Ev.congr (f := fun k => object_Unkey.j0 k s r.1 false) (fun k => ?_) ?_
      · rw [if_pos h0, bne_eq_false_iff_eq.2 (by omega)]
      · refine Ev.step (fun k => ?_) (uloop s r.1 h3 5 0 rfl)
        simp only [object_Unkey.j0]
        rw [if_neg (by decide)]
        rfl
    · rw [if_neg (fun e => h3 e.2)]
      refine Ev.congr (fun k => ?_) (hbad r.1)
      rw [if_pos h0, bne_iff_ne.2 (by omega)]
  · rw [if_neg (fun e => h0 e.1)]
    exact Ev.congr (fun k => by rw [if_neg h0]) (hbad r.1)
theorem refUnkey_ev (s : ByteArray) (hs : s.size ≤ 1048576) : Ev (fun k => bursarref13_Unkey.f k s) (unkR s) := by
  have hbad : ∀ ps, Ev (fun k => bursarref13_Unkey.j0 k s ps true) (0, ⟨#[]⟩, ⟨#[]⟩, 2) := fun ps => Ev.step (f := fun _ => some _) (fun k => by simp only [bursarref13_Unkey.j0]; rw [if_pos trivial]) (Ev.now _)
  refine Ev.bind (f := fun k b => if b.2 = 0 then bursarref13_Unkey.j0 k s b.1 ((b.1.length : Int) != 3) else bursarref13_Unkey.j0 k s b.1 true) (refKeySplit_ev s hs) ?_
  have hsz := cutS_parts s
  unfold unkR
  generalize cutS s = r at hsz ⊢
  by_cases h0 : r.2 = 0
  · by_cases h3 : r.1.length = 3
    · rw [if_pos ⟨h0, h3⟩]
      refine Ev.congr (f := fun k => bursarref13_Unkey.j0 k s r.1 false) (fun k => ?_) ?_
      · rw [if_pos h0, bne_eq_false_iff_eq.2 (by omega)]
      · refine Ev.step (fun k => ?_) (ruloop s r.1 (fun p hp => by have := hsz p hp; omega) h3 5 0 rfl)
        simp only [bursarref13_Unkey.j0]
        rw [if_neg (by decide)]
        rfl
    · rw [if_neg (fun e => h3 e.2)]
      refine Ev.congr (fun k => ?_) (hbad r.1)
      rw [if_pos h0, bne_iff_ne.2 (by omega)]
  · rw [if_neg (fun e => h0 e.1)]
    exact Ev.congr (fun k => by rw [if_neg h0]) (hbad r.1)
end Go.Proofs.YtniolbolfclhkaaDoor.Q
namespace Go.Proofs.YtniolbolfclhkaaDoor.Q
open Go.RowKit Go.Proofs.YtniolbolfclhkaaDoorW.PrintWords Go.Proofs.YtniolbolfclhkaaDoorW.PrintLast Go.Proofs.YtniolbolfclhkaaDoorW.PrintMore Go.Proofs.YtniolbolfclhkaaDoor.Pl
def smallB : ByteArray := ⟨#[79, 1, 2, 47, 97, 1, 120, 0, 3, 0, 1, 4, 109, 97, 105, 110, 1, 3, 99, 112, 117, 244, 3, 0, 7]⟩
def smallA : List Amt := [⟨⟨#[99, 112, 117]⟩, 500⟩]
def smallPs : List Prt := [⟨⟨#[109, 97, 105, 110]⟩, smallA, []⟩]
def pA : ByteArray := ⟨#[47, 97]⟩
def nX : ByteArray := ⟨#[120]⟩
theorem small_form : formB pA nX [] 3 0 smallPs 7 = true := by decide +kernel
theorem numL_500 : numL 500 = [244, 3] := by rw [numL_ge (by decide), numL_lt (by decide)]; rfl
theorem small_out : encO pA nX [] 3 0 smallPs 7 = bytesOf smallB := by
  have h0 : numL 0 = [0] := numL_lt (by decide)
  have h1 : numL 1 = [1] := numL_lt (by decide)
  have h2 : numL 2 = [2] := numL_lt (by decide)
  have h3 : numL 3 = [3] := numL_lt (by decide)
  have h4 : numL 4 = [4] := numL_lt (by decide)
  have h7 : numL 7 = [7] := numL_lt (by decide)
  have hA : encAmts smallA = [1, 3, 99, 112, 117, 244, 3] := by
    show numL 1 ++ ((numL 3 ++ bytesOf ⟨#[99, 112, 117]⟩ ++ numL 500) ++ []) = _
    rw [h1, h3, numL_500]
    rfl
  have hP : encParts smallPs = [1, 4, 109, 97, 105, 110, 1, 3, 99, 112, 117, 244, 3, 0] := by
    show numL 1 ++ (((numL 4 ++ bytesOf ⟨#[109, 97, 105, 110]⟩) ++ (encAmts smallA ++ (numL 0 ++ []))) ++ []) = _
    rw [h1, h4, hA, h0]
    rfl
  show ([79] ++ [1] ++ (numL 2 ++ bytesOf pA) ++ (numL 1 ++ bytesOf nX)) ++ (numL 0 ++ []) ++ [3] ++ numL 0 ++ encParts smallPs ++ numL 7 = _
  rw [h0, h1, h2, h7, hP]
  rfl
theorem small_small : SmallP smallPs := by
  intro q hq
  obtain rfl := List.mem_singleton.1 hq
  refine ⟨fun a ha => ?_, fun a ha => absurd ha (by simp)⟩
  obtain rfl := List.mem_singleton.1 ha
  decide
theorem small_enc : encR pA nX [] 3 0 smallPs 7 = (smallB, 0) := by
  unfold encR
  rw [if_pos small_form, small_out]
  unfold encS encE
  rw [if_pos (by decide), if_pos (by decide), str_bytes]
theorem small_st : st0 smallB = some (textL pA ++ textL nX ++ encLabs [] ++ [3] ++ numL (0 : Int).toNat ++ encParts smallPs ++ numL (7 : Int).toNat) := by
  have h := small_out
  unfold encO headL at h
  have e : bytesOf smallB = 79 :: 1 :: (textL pA ++ textL nX ++ encLabs [] ++ [3] ++ numL (0 : Int).toNat ++ encParts smallPs ++ numL (7 : Int).toNat) := by
    rw [← h]
    rfl
  unfold st0
  rw [e]
  rfl
theorem small_dec : decO (st0 smallB) = (⟨pA, nX, [], 3, 0, smallPs, 7⟩, some []) := by
  rw [small_st]
  exact dec_enc (p := pA) (n := nX) (ls := []) (pr := 3) (d := 0) (ps := smallPs) (v := 7) (ob_fit small_form) small_small
theorem small_letter : letterOf smallB = 79 := by
  have e : bytesOf smallB = 79 :: 1 :: (bytesOf smallB).drop 2 := rfl
  unfold letterOf
  rw [e]
  generalize (bytesOf smallB).drop 2 = r
  rfl
theorem small_good : goodD smallB = true := by
  unfold goodD
  rw [small_dec]
  simp only [small_letter, small_enc, decide_true, Bool.and_self]
theorem fixed_f : bursarlaw13_fixed.f = some true := by
  have e1 : bursarlaw13_small.f = some (pA, nX, [], 3, 0, smallPs, 7) := rfl
  have e2 : object_EncodeObject.f pA nX [] 3 0 smallPs 7 = some (smallB, 0) := by
    unfold object_EncodeObject.f
    rw [if_pos small_small, small_enc]
  have e3 : object_DecodeObject.f smallB = some (pA, nX, [], 3, 0, smallPs, 7, 0) := by
    unfold object_DecodeObject.f decR decE
    rw [if_pos (by decide), if_pos small_good, if_pos small_good, small_dec]
  have e4 : object_Key.f 3 pA nX = some (⟨#[111, 0, 1, 47, 97, 0, 1, 120, 0, 1]⟩, 0) := by
    have ho : okKey 3 pA nX = true := by decide +kernel
    unfold object_Key.f keyS keyE
    rw [if_pos ho, if_pos ho]
    decide +kernel
  have hb : (⟨#[79, 1, 2, 47, 97, 1, 120, 0, 3, 0, 1, 4, 109, 97, 105, 110, 1, 3, 99, 112, 117, 244, 3, 0, 7]⟩ : ByteArray) = smallB := rfl
  have hp : (⟨#[47, 97]⟩ : ByteArray) = pA := rfl
  have hx : (⟨#[120]⟩ : ByteArray) = nX := rfl
  have e5 : bursarlaw13_sameObject.f pA nX [] 3 0 smallPs 7 pA nX [] 3 0 smallPs 7 = some true := congrArg some (decide_eq_true ⟨rfl, rfl, rfl, rfl, rfl, rfl, rfl⟩)
  have e6 : smallB.toList = ([79, 1, 2, 47, 97, 1, 120, 0, 3, 0, 1, 4, 109, 97, 105, 110, 1, 3, 99, 112, 117, 244, 3, 0, 7] : List UInt8) := lit_list.2 rfl
  have e7 : ((⟨#[111, 0, 1, 47, 97, 0, 1, 120, 0, 1]⟩ : ByteArray).toList == ([111, 0, 1, 47, 97, 0, 1, 120, 0, 1] : List UInt8)) = true := beq_iff_eq.2 (lit_list.2 rfl)
  unfold bursarlaw13_fixed.f
  rw [hb, hp, hx, e1]
  generalize smallB = s at *
  generalize pA = p at *
  generalize nX = n at *
  generalize smallPs = ps at *
  simp only [Option.bind_some, e2, e3, e4, e5, e6, if_true, e7]
end Go.Proofs.YtniolbolfclhkaaDoor.Q
namespace Go.Proofs.YtniolbolfclhkaaDoor.Q
open Go.RowKit Go.Proofs.YtniolbolfclhkaaDoorW.PrintWords Go.Proofs.YtniolbolfclhkaaDoorW.PrintLast Go.Proofs.YtniolbolfclhkaaDoorW.PrintMore Go.Proofs.YtniolbolfclhkaaDoor.Pl
theorem ObjectKeys_true (a0 : Int) (a1 a2 a3 : ByteArray) (h1 : a1.size ≤ 1048576) (h3 : a3.size ≤ 1048576) : Ev (fun k => bursarlaw13_ObjectKeys.f k a0 a1 a2 a3) true := by
  unfold bursarlaw13_ObjectKeys.f
  rw [fixed_f]
  refine Ev.congr (fun k => by rw [Option.bind_some, if_pos rfl]) ?_
  refine Ev.congr (fun k => by rw [show object_Key.f a0 a1 a2 = some (keyS a0 a1 a2, keyE a0 a1 a2) from rfl, Option.bind_some]) ?_
  refine Ev.bind (refKey_ev a0 a1 a2 h1) ?_
  refine Ev.bind (unkey_ev a3 h3) ?_
  refine Ev.bind (refUnkey_ev a3 h3) ?_
  refine Ev.congr (f := fun _ => some true) (fun k => ?_) (Ev.now _)
  rw [if_pos rfl, if_pos rfl, if_pos rfl, if_pos rfl, if_pos rfl, beq_self_eq_true]
end Go.Proofs.YtniolbolfclhkaaDoor.Q
namespace Go.Proofs.YtniolbolfclhkaaDoor.Pure
open Go.RowKit Go.Proofs.YtniolbolfclhkaaDoorW.PrintWords
set_option linter.unusedVariables false
theorem ObjectKeys (a0 : Int) (a1 a2 a3 : ByteArray) {P0 : Prop} (w0 : P0) (b1 : a1.size ≤ 1048576) (b2 : a2.size ≤ 1048576) (b3 : a3.size ≤ 1048576) : ∃ k, Q.bursarlaw13_ObjectKeys.f k a0 a1 a2 a3 = some true := (Q.ObjectKeys_true a0 a1 a2 a3 b1 b3).rounds
end Go.Proofs.YtniolbolfclhkaaDoor.Pure
namespace Go.Proofs.YtniolbolfclhkaaDoor.Q
open Go.RowKit Go.Lib Go.ChangeShapes Go.Proofs.YtniolbolfclhkaaDoorW.PrintWords Go.Proofs.YtniolbolfclhkaaDoorW.PrintLast
set_option linter.unusedVariables false
set_option linter.unusedSimpArgs false
theorem laid_one {P : Program} {w : World} {l : List (String × DataW Unit)} {n : String} {d : DataW Unit} (h : laidMetH P l w) (hl : (l.filter fun x => x.1 == n) = [(n, d)]) (hd : d.handleName? = none) : laidMet P [(n, d)] w := by
  have h1 := h.filter (fun x => x.1 == n)
  rw [hl] at h1
  have h2 := (laidMetH_iff.1 h1).1
  have e : ([(n, d)] : List (String × DataW Unit)).filter (fun x => x.2.handleName?.isNone) = [(n, d)] := by simp [List.filter_cons, hd]
  rw [e] at h2
  exact h2
theorem letters_laid {w : World} (h : laidMet Tryd.prog [("bursar/object.letters", Rows.laid_bursar_object_letters)] w) : w.cell? ⟨0, 1, none⟩ = some (.int .u8 81) ∧ w.cell? ⟨0, 2, none⟩ = some (.int .u8 76) ∧ w.cell? ⟨0, 3, none⟩ = some (.int .u8 79) ∧ w.cell? ⟨0, 4, none⟩ = some (.int .u8 66) := by
  have t := Lib.tabIs_of_head (k := .u8) (zs := [0, 81, 76, 79, 66]) (g := 0) (t := 55) (e := 5) (n := 5) (by kernel_rfl) (by kernel_rfl) Tryd.underlying55 Tryd.underlying5 (by kernel_rfl) (by kernel_rfl) h
  exact ⟨t.cell (by kernel_rfl) 1 (by decide), t.cell (by kernel_rfl) 2 (by decide), t.cell (by kernel_rfl) 3 (by decide), t.cell (by kernel_rfl) 4 (by decide)⟩
theorem glob_of {W : World} (hsh : W.ShapedOpen Tryd.prog) (h : laidMetH Tryd.prog [("unicode/utf8.acceptRanges", Rows.laid_unicode_utf8_acceptRanges), ("bursar/object.letters", Rows.laid_bursar_object_letters), ("unicode/utf8.first", Rows.laid_unicode_utf8_first)] W) : Glob W :=
  have l := letters_laid (laid_one h rfl rfl)
  ⟨Tryd.laysM146.s1_3 W hsh, l.1, l.2.1, l.2.2.1, l.2.2.2⟩
end Go.Proofs.YtniolbolfclhkaaDoor.Q
namespace Go.Proofs.YtniolbolfclhkaaDoor.objectKeys
open Go.ChangeShapes Go.WideShapes Go.ChangeAt Go.RowKit
open Go.ChangeMaps (open_string shut_string)
set_option linter.unusedVariables false
set_option linter.unusedSimpArgs false
theorem own : ownKnob Tryd.prog.godebug = none := by kernel_rfl
set_option maxRecDepth 100000 in
theorem contract (H : Type) (enc : TypeId × Value → H) (W : World) (base : Nat) (args : Array Value) (ds gs : List (DataW H)) (before : List MemPlace)
    (hval0 : ∀ (j : Nat) t v, Tryd.f4.params[j]? = some t → args[j]? = some v → Value.okWide Tryd.prog W .any base t v)
    (hW : DataW.Whole enc Tryd.prog Tryd.f4.params.toList Rows.objectKeysSpec.vars false W args.toList ds gs before)
    (hk : Rows.uptoSmall H (ds ++ gs) = true)
    (hsh : W.ShapedOpen Tryd.prog)
    (hl : laidMetH Tryd.prog Rows.objectKeysUptoRow.laid W)
    : Calls Tryd.prog 4 args W fun e W' => ∃ v, e = .returned v ∧ Rows.objectKeysSpec.post enc Tryd.prog Tryd.f4 false true false false W args v W' := by
  have hval : ∀ (j : Nat) t v, Tryd.f4.params[j]? = some t → args[j]? = some v → Value.okWide Tryd.prog W .any base t v := hval0
  have hW' := hW
  obtain ⟨p, q, hA0, hV, rfl, hfz, hnd⟩ := hW
  have hA : DataW.TrodAll enc Tryd.prog W 0 (fun _ => true) true Tryd.f4.params.toList args.toList ds p := hA0
  rw [Tryd.params4] at hA hval
  obtain ⟨v0, vs0, d0, ds0, p0, q0, hargs, rfl, rfl, h0, r0⟩ := trodAll_cons hA
  obtain ⟨v1, vs1, d1, ds1, p1, q1, rfl, rfl, rfl, h1, r1⟩ := trodAll_cons r0
  obtain ⟨v2, vs2, d2, ds2, p2, q2, rfl, rfl, rfl, h2, r2⟩ := trodAll_cons r1
  obtain ⟨v3, vs3, d3, ds3, p3, q3, rfl, rfl, rfl, h3, r3⟩ := trodAll_cons r2
  obtain ⟨rfl, rfl, rfl⟩ := trodAll_nil r3
  obtain rfl : args = #[v0, v1, v2, v3] := by cases args; simp_all
  obtain ⟨rfl, rfl⟩ := trodVars_none hV
  obtain ⟨a0, rfl, rfl, rfl, w0⟩ := open_int Tryd.underlying3 (hval 0 3 v0 rfl rfl) h0
  obtain ⟨a1, rfl, rfl, rfl, y1⟩ := open_string Tryd.underlying9 (hval 1 9 v1 rfl rfl) h1
  obtain ⟨a2, rfl, rfl, rfl, y2⟩ := open_string Tryd.underlying9 (hval 2 9 v2 rfl rfl) h2
  obtain ⟨a3, rfl, rfl, rfl, y3⟩ := open_string Tryd.underlying9 (hval 3 9 v3 rfl rfl) h3
  have hb := of_decide_eq_true hk
  simp only [List.append_nil, List.cons_append, List.nil_append, Rows.uptoBulkAll, Rows.uptoBulk, Array.length_toList] at hb
  have b1 : a1.size ≤ 1048576 := by have : a1.data.size = a1.size := rfl; omega
  have b2 : a2.size ≤ 1048576 := by have : a2.data.size = a2.size := rfl; omega
  have b3 : a3.size ≤ 1048576 := by have : a3.data.size = a3.size := rfl; omega
  obtain ⟨k, hp⟩ := Pure.ObjectKeys a0 a1 a2 a3 w0 b1 b2 b3
  refine (Q.bursarlaw13_ObjectKeys.calls k a0 a1 a2 a3 true W  hp (Q.glob_of hsh hl)).mono fun e W' ⟨he, bel⟩ => ?_
  subst he
  exact ⟨_, rfl, _, _, _, [], _, [], hW', trodAll_mk1 (shut_bool Tryd.underlying4 _), (trodAll_cons_mk (shut_int Tryd.underlying3 w0) (trodAll_cons_mk (shut_string Tryd.underlying9 y1) (trodAll_cons_mk (shut_string Tryd.underlying9 y2) (trodAll_cons_mk (shut_string Tryd.underlying9 y3) trodAll_mk0)))), rfl, bel.frame _, fun h => by cases h⟩
noncomputable def tab1 : Obj → Obj
  | .cells _ t frozen => .cells (Go.Pinned.utf8FirstZ.map fun (n : Nat) => Value.int .u8 (n : Int)).toArray t frozen
  | o => o
noncomputable def laidWorld (os : Os) : World :=
  { World.doorLaid Tryd.prog 400 os with heap := (World.doorLaid Tryd.prog 400 os).heap.modify 2 tab1 }
theorem laid_met (os : Os) : laidMet Tryd.prog Rows.objectKeysRow.laid ((laidWorld os).forCall (fun _ _ => 0) ⟨#[], #[.int .i64 0, .string ByteArray.empty, .string ByteArray.empty, .string ByteArray.empty], []⟩).memory :=
  laidMet_of_run' 8 (by kernel_rfl) (by kernel_rfl)
theorem reads (os : Os) {H : Type} (enc : TypeId × Value → H) : ∃ places, DataW.whole enc Tryd.prog ((laidWorld os).forCall (fun _ _ => 0) ⟨#[], #[.int .i64 0, .string ByteArray.empty, .string ByteArray.empty, .string ByteArray.empty], []⟩).memory Tryd.f4.params.toList Rows.objectKeysSpec.vars false (#[.int .i64 0, .string ByteArray.empty, .string ByteArray.empty, .string ByteArray.empty] : Array Value).toList 8 = some ([.lit (.int .i64 0), .lit (.string []), .lit (.string []), .lit (.string [])], [], places) :=
  ⟨[], by kernel_rfl⟩
set_option maxRecDepth 100000 in
theorem lifted (os : Os) (started : os.Started) (H : Type) (enc : TypeId × Value → H) (F : Stop.Interp) :
    ReturnsInHanded {} Tryd.checked os 4 .any ((Rows.OpenSpec.upto Rows.objectKeysSpec).preRow enc Tryd.prog Tryd.f4 Rows.objectKeysUptoRow.domain false Rows.objectKeysUptoRow.laid) (((Rows.OpenSpec.upto Rows.objectKeysSpec).at F).post enc Tryd.prog Tryd.f4 false true false false) := by
  obtain ⟨places, hx⟩ := reads os enc
  refine returnsInHanded_of_row (C := Tryd.checked) (s := Rows.OpenSpec.upto Rows.objectKeysSpec) own started (by kernel_rfl) Tryd.func4
    (witness_row_at (enc := enc) (C := Tryd.checked) false (laidWorld os) #[.int .i64 0, .string ByteArray.empty, .string ByteArray.empty, .string ByteArray.empty] rfl (by kernel_rfl) (by kernel_rfl) (by kernel_rfl)
      (OpenSpec.preRow_of_cond 8 hx (by kernel_rfl) (fun k hk => by cases hk; kernel_rfl) (by kernel_rfl) (laid_met os))) ?_
  intro W base args ds gs before hval hW _ hcond hsz hl hsh _
  exact contract H enc W base args ds gs before hval hW (hcond _ rfl) hsh hl
theorem said : Rows.ObjectKeysUptoSaid :=
  OpenClaim.holds_of_cond 4 Tryd.f4 rfl rfl rfl rfl rfl rfl rfl ⟨rfl, rfl, rfl, rfl, rfl⟩ rfl rfl rfl rfl rfl (by kernel_rfl) Tryd.func4 (by kernel_rfl)
    (of_decide_eq_true (by kernel_rfl)) (by unfold Func.isWrapper; first | (rw [if_pos (by decide +kernel)]; kernel_rfl) | (rw [if_neg (by decide +kernel)]; exact ⟨rfl, rfl⟩))
    (fun os started H enc _ F => by rw [OpenClaim.pre_eq_preRow]; exact lifted os started H enc F)
theorem plain (f : FuncId) (fn : Func) (hf : Tryd.pinned.checked.prog.funcNamed "bursar/bursarlaw13.ObjectKeys" = some f) (hfn : Tryd.pinned.checked.prog.funcs[f]? = some fn) :
    false = Tryd.pinned.checked.prog.looks [] ∧ ∀ (j : Nat) t, fn.params[j]? = some t → Tryd.pinned.checked.prog.wantsStandIn t = false := by
  obtain rfl : f = 4 := Option.some.inj ((show Tryd.prog.funcNamed "bursar/bursarlaw13.ObjectKeys" = some 4 by kernel_rfl).symm.trans hf) |>.symm
  obtain rfl : fn = Tryd.f4 := (Option.some.inj (Tryd.func4.symm.trans hfn)).symm
  refine ⟨by kernel_rfl, fun j t ht => ?_⟩
  rw [Tryd.params4] at ht
  have hall : ∀ x ∈ [3, 9, 9, 9], Tryd.prog.wantsStandIn x = false := by
    intro x hx; simp only [List.mem_cons, List.mem_nil_iff, or_false] at hx; rcases hx with rfl | rfl | rfl | rfl <;> kernel_rfl
  exact hall t (by simpa using Array.mem_of_getElem? ht)
theorem card : Rows.ObjectKeysUptoCardSaid :=
  Claim7.holds_tied_plain_at .later [] _ _ _ _ said (fun _ h => by cases h) (by kernel_rfl) (fun _ h => by cases h) objectKeysUpto_row_tie rfl ⟨rfl, rfl⟩ (by kernel_rfl) rfl plain (by kernel_rfl)
end Go.Proofs.YtniolbolfclhkaaDoor.objectKeys
namespace Go.Proofs.YtniolbolfclhkaaDoor
theorem objectKeys_holds : Rows.ObjectKeysUptoCardSaid := objectKeys.card
end Go.Proofs.YtniolbolfclhkaaDoor
