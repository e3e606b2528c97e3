/- What the statement AccessPlaysUptoCardSaid rests on, part 6 of 6: walks and plain laws; what of the printer's words it leans on. -/
import Derived.Test.YtphddbijdfmpjaaGreatDoorRows
import Derived.Test.YtphddbijdfmpjaaGreatDoorCards
import Derived.Test.YtphddbijdfmpjaaGreatDoorTie
import Derived.Test.YtphddbijdfmpjaaGreatDoorMPL3
import Derived.Test.YtphddbijdfmpjaaGreatDoorMPL4
import Derived.Test.YtphddbijdfmpjaaGreatDoorMPL5
import Derived.LaidSub
import Derived.Lib.LaidTab
import Derived.ChangeSame
import Derived.WalkKit
import Derived.ProofKit
import Derived.OpenShut
import Derived.ShutString
import Derived.ChangeOld
import Derived.Below
import Derived.SizedLaws
import Derived.Deep.DeepHandedRow
import Derived.LaidMore
namespace Go.Proofs.YtphddbijdfmpjaaGreatDoor.Q
open Go.RowKit Go.MapRaw Go.Proofs.YtphddbijdfmpjaaGreatDoorW.PrintWords Go.Proofs.YtphddbijdfmpjaaGreatDoorW.PrintLast Go.Proofs.YtphddbijdfmpjaaGreatDoor.Wr
set_option linter.unusedVariables false
set_option linter.unusedSimpArgs false
theorem BestI.isSome {L : List Bnd} {f : Bnd → Bool} {o : Option Nat} (h : BestI L f L.length o) : o.isSome = L.any f := by
  cases o with
  | none =>
    symm
    rw [Option.isSome_none, List.any_eq_false]
    intro x hx
    obtain ⟨k, hk, rfl⟩ := List.getElem_of_mem hx
    rw [h k hk hk]; decide
  | some j =>
    obtain ⟨hj, _, h2, _⟩ := h
    symm
    rw [Option.isSome_some, List.any_eq_true]
    exact ⟨_, List.getElem_mem hj, h2⟩
def rmayB (L : List Bnd) (s : ByteArray) (v : Int) (p : ByteArray) : Bool := isV v && decide (pathS p = 0) && ((L.any fun b => givesB b s v p) || decide (s = rootS))
set_option maxRecDepth 100000 in
set_option maxHeartbeats 16000000 in
theorem rmay_ok (w : World) (r base : Nat) (v0 : Value) (L : List Bnd) (s : ByteArray) (v : Int) (p : ByteArray) (hT : RT w r base v0 L) (hL : L.length ≤ 1048576) (hp : p.size ≤ 1048576) (hps : ∀ x ∈ L, x.path.size ≤ 1048576) :
    Calls Tryz.prog 19 #[.pointer (some ⟨r, 0, none⟩), .string s, .int .i64 v, .string p] w fun e w' => e = .returned (.bool (rmayB L s v p)) ∧ Below w.heap.size w w' := by
  have hu28 := Tryz.underlying28
  obtain ⟨res, hres⟩ : ∃ res, res = rmayB L s v p := ⟨_, rfl⟩
  rw [← hres]
  have HRES := Lib.hid hres
  have HT := Lib.hid hT
  have WK := Lib.hid (fun w' (hb : Below w.heap.size w w') => rwhy_ok w' r base v0 L s v p (hT.below hb) hL hp hps)
  have PK := Lib.hid (rpath_ok p w hp)
  clear hres hT hL hp hps
  by_cases h0 : 0 ≤ v
  rotate_left
  · have e0 : decide (v < 0) = true := decide_eq_true (by omega)
    have HF := Lib.hid (show res = false by rw [HRES.out]; unfold rmayB isV; rw [show decide (v ≥ 0) = false from decide_eq_false h0]; rfl)
    clear h0
    go_enter Tryz.func19, Tryz.ntmps19
    go_wp2
    go_ret
    exact ⟨by rw [HF.out] <;> rfl, Below.refl _ _⟩
  have e0 : decide (v < 0) = false := decide_eq_false (by omega)
  by_cases h3 : v ≤ 3
  rotate_left
  · have e3 : decide (3 < v) = true := decide_eq_true (by omega)
    have HF := Lib.hid (show res = false by rw [HRES.out]; unfold rmayB isV; rw [show decide (v ≤ 3) = false from decide_eq_false h3]; simp)
    clear h0 h3
    go_enter Tryz.func19, Tryz.ntmps19
    go_wp2
    go_ret
    exact ⟨by rw [HF.out] <;> rfl, Below.refl _ _⟩
  have e3 : decide (3 < v) = false := decide_eq_false (by omega)
  have HV := Lib.hid ((isV_iff v).2 ⟨h0, h3⟩)
  clear h0 h3
  rcases line_cases p with ⟨hp0, _⟩ | ⟨hp0, _⟩
  rotate_left
  · have HF := Lib.hid (show res = false by rw [HRES.out]; unfold rmayB; rw [hp0]; simp)
    rw [hp0] at PK
    clear hp0
    go_enter Tryz.func19, Tryz.ntmps19
    go_wp2_with (go_at_call 35; refine PK.out.mono ?_; rintro e w2 ⟨rfl, hb⟩; have B2 := Aside0.mk hb; clear hb)
    go_ret
    exact ⟨by rw [HF.out] <;> rfl, B2.out⟩
  have HF := Lib.hid (show res = ((L.any fun b => givesB b s v p) || decide (s = rootS)) by rw [HRES.out]; unfold rmayB; rw [HV.out, hp0]; simp)
  rw [hp0] at PK
  clear hp0 HV HRES
  go_enter Tryz.func19, Tryz.ntmps19
  go_upto_region 3 with (go_at_call 35; refine PK.out.mono ?_; rintro e w2 ⟨rfl, hb⟩; have B2 := Aside0.mk hb; clear hb)
  go_upto_region 4 with (go_at_call 17; refine (WK.out w2 B2.out).mono ?_; rintro e w3 ⟨⟨o, hO, rfl⟩, hb⟩; have HO := Lib.hid hO.isSome; have B3 := Aside0.mk (B2.out.trans (below_lower hb B2.out.size)); clear hO hb; generalize whyL L o = wb; obtain ⟨cp, cn, cs, cv⟩ := wb; unfold eV)
  have B4 := Aside0.mk (B3.out.alloc B3.out.size (.cells #[.string cp, .string cn, .string cs, .int .i64 cv] 28))
  clear B3
  generalize w3.alloc _ = w4 at B4 ⊢
  rw [← HO.out] at HF
  generalize o.isSome = fd at HF ⊢
  cases fd with
  | true =>
    go_wp2
    go_ret
    exact ⟨by rw [HF.out] <;> rfl, B4.out⟩
  | false =>
    by_cases hs : s = rootS
    · have hr : (s.toList == ([114, 111, 111, 116] : List UInt8)) = true := by rw [root_list, toList_beq, ba_beq]; exact hs
      have HF2 := Lib.hid (show res = true by rw [HF.out, decide_eq_true hs]; rfl)
      clear hs HF
      go_wp2
      go_ret
      exact ⟨by rw [HF2.out] <;> rfl, B4.out⟩
    · have hr : (s.toList == ([114, 111, 111, 116] : List UInt8)) = false := by rw [root_list, toList_beq, Bool.eq_false_iff, Ne, ba_beq]; exact hs
      have HF2 := Lib.hid (show res = false by rw [HF.out, decide_eq_false hs]; rfl)
      clear hs HF
      go_wp2
      go_ret
      exact ⟨by rw [HF2.out] <;> rfl, B4.out⟩
theorem runder_ok (p q : ByteArray) (w : World) (hp : p.size ≤ 1048576) : Calls Tryz.prog 44 #[.string p, .string q] w fun e w' => e = .returned (.bool (underS p q)) ∧ Below w.heap.size w w' := by
  obtain ⟨k, hk⟩ := refUnder_ev p q hp
  exact bursarref04_Under.calls k _ _ _ w (hk k (Nat.le_refl _))
def stepR (l : List ByteArray) (p : ByteArray) : List ByteArray := if (l.any fun q => underS p q) = true then l else l ++ [p]
def rreachL (L : List Bnd) (s : ByteArray) (v : Int) : List ByteArray := ((L.filter fun b => givesB b s v b.path).map (·.path)).foldl stepR []
def rreachS (L : List Bnd) (s : ByteArray) (v : Int) : List ByteArray := if isV v = true then (if s = rootS then [slashS] else rreachL L s v) else []
theorem stepR_len (l : List ByteArray) : ∀ (ps acc : List ByteArray), (ps.foldl stepR acc).length ≤ acc.length + ps.length
  | [], acc => by simp
  | p :: r, acc => by
    rw [List.foldl_cons]
    have := stepR_len l r (stepR acc p)
    unfold stepR at this ⊢
    split at this
    · rename_i h; rw [if_pos h]; rw [List.length_cons]; omega
    · rename_i h; rw [if_neg h]; rw [List.length_append] at this; simp at this ⊢; omega
def accR (L : List Bnd) (s : ByteArray) (v : Int) (i : Nat) : List ByteArray := (((L.take i).filter fun b => givesB b s v b.path).map (·.path)).foldl stepR []
theorem accR_len (L : List Bnd) (s : ByteArray) (v : Int) (i : Nat) : (accR L s v i).length ≤ i := by
  unfold accR
  have h := stepR_len [] (((L.take i).filter fun b => givesB b s v b.path).map (·.path)) []
  rw [List.length_map] at h
  have h2 := List.length_filter_le (fun b : Bnd => givesB b s v b.path) (L.take i)
  rw [List.length_take] at h2
  simp at h ⊢
  omega
theorem accR_next (L : List Bnd) (s : ByteArray) (v : Int) (i : Nat) (h : i < L.length) : accR L s v (i + 1) = if givesB L[i] s v L[i].path = true then stepR (accR L s v i) L[i].path else accR L s v i := by
  unfold accR
  rw [filt_take L (fun b => givesB b s v b.path) (·.path) i h, List.foldl_append]
  by_cases e : givesB L[i] s v L[i].path = true
  · rw [if_pos e, if_pos e]; rfl
  · rw [if_neg e, if_neg e]; rfl
set_option maxRecDepth 100000 in
set_option maxHeartbeats 16000000 in
theorem rreach_ok (w : World) (r base : Nat) (v0 : Value) (L : List Bnd) (s : ByteArray) (v : Int) (hT : RT w r base v0 L) (hL : L.length ≤ 1048576) (hps : ∀ x ∈ L, x.path.size ≤ 1048576) :
    Calls Tryz.prog 22 #[.pointer (some ⟨r, 0, none⟩), .string s, .int .i64 v] w fun e w' => ∃ v1, e = .returned v1 ∧ Kd.R Kd.string 9 w' w.heap.size (fun _ => True) v1 (rreachS L s v) ∧ Below w.heap.size w w' := by
  have hu40 := Tryz.underlying40
  have hu28 := Tryz.underlying28
  obtain ⟨rs, hrs⟩ : ∃ rs, rs = rreachS L s v := ⟨_, rfl⟩
  rw [← hrs]
  have HRS := Lib.hid hrs
  obtain ⟨A, c, rfl⟩ := Kd.R_slice hT.row
  have HLL := Lib.hid hL
  have HXS := Lib.hid hps
  have CELLR := Lib.hid (show ∀ w', Below w.heap.size w w' → w'.cell? ⟨r, 0, none⟩ = some (.slice A L.length c) from fun w' hb => (blk_cell (blk_below hT.blk hb) 0).trans rfl)
  have CR := Lib.hid (Kd.R_reads' hT.row).2.2
  clear hrs hT hL hps
  by_cases h0 : 0 ≤ v
  rotate_left
  · have e0 : decide (v < 0) = true := decide_eq_true (by omega)
    have HF := Lib.hid (show rs = [] by rw [HRS.out]; unfold rreachS isV; rw [show decide (v ≥ 0) = false from decide_eq_false h0]; rfl)
    clear h0
    go_enter Tryz.func22, Tryz.ntmps22
    go_wp2
    go_ret
    exact ⟨_, rfl, by rw [HF.out]; exact Kd.R_nil _ _ _ _ _, Below.refl _ _⟩
  have e0 : decide (v < 0) = false := decide_eq_false (by omega)
  by_cases h3 : v ≤ 3
  rotate_left
  · have e3 : decide (3 < v) = true := decide_eq_true (by omega)
    have HF := Lib.hid (show rs = [] by rw [HRS.out]; unfold rreachS isV; rw [show decide (v ≤ 3) = false from decide_eq_false h3]; simp)
    clear h0 h3
    go_enter Tryz.func22, Tryz.ntmps22
    go_wp2
    go_ret
    exact ⟨_, rfl, by rw [HF.out]; exact Kd.R_nil _ _ _ _ _, Below.refl _ _⟩
  have e3 : decide (3 < v) = false := decide_eq_false (by omega)
  have HV := Lib.hid ((isV_iff v).2 ⟨h0, h3⟩)
  clear h0 h3
  by_cases hs : s = rootS
  · have hr : (s.toList == ([114, 111, 111, 116] : List UInt8)) = true := by rw [root_list, toList_beq, ba_beq]; exact hs
    have HF := Lib.hid (show rs = [slashS] by rw [HRS.out]; unfold rreachS; rw [HV.out, if_pos rfl, if_pos hs])
    clear hs
    go_enter Tryz.func22, Tryz.ntmps22
    go_wp2
    go_ret
    refine ⟨_, rfl, ?_, (Below.refl _ _).alloc (Nat.le_refl _) _⟩
    rw [HF.out]
    exact ⟨fun _ _ => trivial, [.string slashS], ⟨rfl, .inr ⟨_, 1, #[.string slashS], rfl, Nat.le_refl _, blk_new _ _, Nat.le_refl _, by decide, rfl, rfl⟩⟩, repsS _ _ _ [slashS]⟩
  have hr : (s.toList == ([114, 111, 111, 116] : List UInt8)) = false := by rw [root_list, toList_beq, Bool.eq_false_iff, Ne, ba_beq]; exact hs
  have HF := Lib.hid (show rs = accR L s v L.length by rw [HRS.out]; unfold rreachS rreachL accR; rw [HV.out, if_pos rfl, if_neg hs, List.take_of_length_le (Nat.le_refl _)])
  clear hs HRS HV
  go_enter Tryz.func22, Tryz.ntmps22
  go_upto_region 7 with fail
  clear hr e0 e3
  go_loopg [7, 8] L.length (fun g v7 v8 wr => ∃ (i : Nat), v8 = .int .i64 (i : Int) ∧ Aside0 (i + g = L.length) ∧ Aside0 (Kd.R Kd.string 9 wr w.heap.size (fun _ => True) v7 (accR L s v i)) ∧ Aside0 (Below w.heap.size w wr))
  case atStart => exact ⟨0, rfl, ⟨by omega⟩, ⟨Kd.R_nil _ _ _ _ _⟩, ⟨Below.refl _ _⟩⟩
  case round =>
    obtain ⟨i, rfl, HI, RW, HBq⟩ := hrel
    have hrc := CELLR.out _ HBq.out
    by_cases hi : i < L.length
    rotate_left
    · have q1 : decide ((i : Int) < (L.length : Int)) = false := decide_eq_false (by omega)
      have q1n : decide (i < L.length) = false := decide_eq_false hi
      have HIL := Lib.hid (show i = L.length by have := HI.out; omega)
      clear hi
      go_wp2
      go_ret
      exact ⟨_, rfl, by rw [HF.out, ← HIL.out]; exact RW.out, HBq.out⟩
    have q1 : decide ((i : Int) < (L.length : Int)) = true := decide_eq_true (by omega)
    have q1n : decide (i < L.length) = true := decide_eq_true hi
    have p1 : (0 ≤ (i : Int)) = True := eq_true (by omega)
    have p2 : ((i : Int) < (L.length : Int)) = True := eq_true (by omega)
    obtain ⟨ad, hA, hx0, hx⟩ := bnd_at (Kd.C_below CR.out HBq.out) i hi
    cases hA
    obtain ⟨g0, rfl⟩ : ∃ g0, gk = g0 + 1 := ⟨gk - 1, by have := HI.out; omega⟩
    have HLT := Lib.hid (show i < 1048576 by have := HLL.out; omega)
    have GV := Lib.hid (rgives_ok L[i] s v L[i].path wr (HXS.out _ (List.getElem_mem hi)))
    have HNX := Lib.hid (accR_next L s v i hi)
    have HAL := Lib.hid (show (accR L s v i).length ≤ 1048576 by have := accR_len L s v i; have := HLL.out; omega)
    have UK := Lib.hid (show ∀ q w', Calls Tryz.prog 44 #[.string L[i].path, .string q] w' fun e w2 => e = .returned (.bool (underS L[i].path q)) ∧ Below w'.heap.size w' w2 from fun q w' => runder_ok L[i].path q w' (HXS.out _ (List.getElem_mem hi)))
    generalize L[i] = x at hx0 hx GV HNX UK
    generalize accR L s v i = ys at RW HNX HAL
    clear hi
    obtain ⟨xp, xn, xs, xv⟩ := x
    have hx1 := hx 1 (.string xn) (by decide) rfl
    have hx2 := hx 2 (.string xs) (by decide) rfl
    have hx3 := hx 3 (.int .i64 xv) (by decide) rfl
    clear hx
    generalize givesB ⟨xp, xn, xs, xv⟩ s v (Bnd.path ⟨xp, xn, xs, xv⟩) = z at GV HNX
    cases z with
    | false =>
      have HN := Lib.hid (show accR L s v (i + 1) = ys by rw [HNX.out, if_neg (by decide)])
      go_wp2_with (go_at_call 39; refine GV.out.mono ?_; rintro e wx ⟨rfl, hb⟩; have HBr := Aside0.mk (HBq.out.trans (below_lower hb HBq.out.size)); have RWr := Aside0.mk (Kd.R_below RW.out hb); clear HBq RW hb; have HBq := HBr; have RW := RWr; clear HBr RWr)
      go_roundg g0
      case measure => omega
      case rel => exact ⟨i + 1, congrArg (Value.int .i64) (by rw [w64 i (by have := HLT.out; omega)]), ⟨by have := HI.out; omega⟩, ⟨by rw [HN.out]; exact RW.out⟩, HBq⟩
    | true =>
    have HN0 := Lib.hid (show accR L s v (i + 1) = stepR ys xp by rw [HNX.out, if_pos (by trivial)])
    clear HNX
    obtain ⟨A7, c7, rfl⟩ := Kd.R_slice RW.out
    go_upto_region 13 with (go_at_call 39; refine GV.out.mono ?_; rintro e wx ⟨rfl, hb⟩; have HBr := Aside0.mk (HBq.out.trans (below_lower hb HBq.out.size)); have RWr := Aside0.mk (Kd.R_below RW.out hb); clear HBq RW hb; have HBq := HBr; have RW := RWr; clear HBr RWr)
    clear hx0 hx1 hx2 hx3 hrc GV
    have CY := Lib.hid (Kd.R_reads' RW.out).2.2
    have RWX := Lib.hid RW.out
    have HBX := Lib.hid HBq.out
    clear RW HBq
    go_loopg [10, 11] ys.length (fun g v10 v11 wr => ∃ (j : Nat), v11 = .int .i64 (j : Int) ∧ v10 = .bool ((ys.take j).any fun q => underS xp q) ∧ Aside0 (j + g = ys.length) ∧ Aside0 (Below wx.heap.size wx wr))
    case atStart => exact ⟨0, rfl, rfl, ⟨by omega⟩, ⟨Below.refl _ _⟩⟩
    case round =>
      obtain ⟨j, rfl, rfl, HJ, HBj⟩ := hrel
      by_cases hj : j < ys.length
      · have q2 : decide ((j : Int) < (ys.length : Int)) = true := decide_eq_true (by omega)
        have q2n : decide (j < ys.length) = true := decide_eq_true hj
        have p3 : (0 ≤ (j : Int)) = True := eq_true (by omega)
        have p4 : ((j : Int) < (ys.length : Int)) = True := eq_true (by omega)
        obtain ⟨ae, hA, hy0⟩ := txt_at (Kd.C_below CY.out HBj.out) hj
        cases hA
        obtain ⟨g1, rfl⟩ : ∃ g1, gk = g1 + 1 := ⟨gk - 1, by have := HJ.out; omega⟩
        have HJT := Lib.hid (show j < 1048576 by have := HAL.out; omega)
        have HS := Lib.hid (show (ys.take (j + 1)).any (fun q => underS xp q) = ((ys.take j).any (fun q => underS xp q) || underS xp ys[j]) by rw [List.take_add_one, List.getElem?_eq_getElem hj, List.any_append]; simp)
        generalize ys[j] = yy at hy0 HS
        have UKW := Lib.hid (UK.out yy wr)
        generalize ((ys.take j).any fun q => underS xp q) = y at HS ⊢
        generalize underS xp yy = z2 at HS UKW
        clear hj
        cases y with
        | true =>
          go_wp2
          go_roundg g1
          case measure => omega
          case rel => exact ⟨j + 1, congrArg (Value.int .i64) (by rw [w64 j (by have := HJT.out; omega)]), by rw [HS.out, Bool.true_or], ⟨by have := HJ.out; omega⟩, HBj⟩
        | false =>
          go_wp2_with (go_at_call 44; refine UKW.out.mono ?_; rintro e wy ⟨rfl, hb⟩; have HBk := Aside0.mk (HBj.out.trans (below_lower hb HBj.out.size)); clear HBj hb; have HBj := HBk; clear HBk)
          go_roundg g1
          case measure => omega
          case rel => exact ⟨j + 1, congrArg (Value.int .i64) (by rw [w64 j (by have := HJT.out; omega)]), by rw [HS.out, Bool.false_or], ⟨by have := HJ.out; omega⟩, HBj⟩
      have q2 : decide ((j : Int) < (ys.length : Int)) = false := decide_eq_false (by omega)
      have q2n : decide (j < ys.length) = false := decide_eq_false hj
      rw [List.take_of_length_le (show ys.length ≤ j by omega)]
      clear hj
      have HBq := Aside0.mk (HBX.out.trans (below_lower HBj.out HBX.out.size))
      have RW := Aside0.mk (Kd.R_below RWX.out HBj.out)
      clear HBj
      obtain ⟨y, hy⟩ : ∃ y, y = ys.any fun q => underS xp q := ⟨_, rfl⟩
      rw [← hy]
      have HY := Lib.hid hy
      clear hy
      cases y with
      | true =>
        have HN := Lib.hid (show accR L s v (i + 1) = ys by rw [HN0.out]; unfold stepR; rw [if_pos HY.out.symm])
        go_wp2
        go_roundg g0
        case measure => omega
        case rel => exact ⟨i + 1, congrArg (Value.int .i64) (by rw [w64 i (by have := HLT.out; omega)]), ⟨by have := HI.out; omega⟩, ⟨by rw [HN.out]; exact RW.out⟩, HBq⟩
      | false =>
        have HN := Lib.hid (show accR L s v (i + 1) = ys ++ [xp] by rw [HN0.out]; unfold stepR; rw [if_neg (by rw [← HY.out]; decide)])
        go_wp2_with ((with_reducible refine gate_builtin (b := .append) (xs := #[.tmp 67, .tmp 69]) rfl ?_); at_builtin; refine parkR_ ?_)
        refine Aside0.mk ?_
        refine Kd.R_append Kd.string (w0 := w) w.heap.size rfl (.tmp 67) (.tmp 69) 49 9 (.string ⟨#[]⟩) 16 rfl Tryz.underlying49 info9 rfl (by decide) (by omega) (.slice A7 ys.length c7) ys xp [.string xp] (fun _ => True) (fun _ => False) rfl rfl ?aP (fun _ hk => hk.elim) ?aF ?aO ?aB ?aS ?aL ?_
        (case aP => exact (show [Value.string xp] = [Value.string xp] from rfl))
        (case aB => exact HBq.out)
        (case aF => exact (fun _ _ => trivial))
        (case aO => exact RW.out)
        (case aS => exact HBq.out.size)
        (case aL => have := HAL.out; omega)
        intro v2 w6 ho hb2 hg2 hat2
        have RW6 := Aside0.mk ho
        have HB6 := Aside0.mk hb2
        clear ho hb2 hg2 hat2 RW HBq
        have RW := RW6
        have HBq := HB6
        clear RW6 HB6
        go_wp2
        go_roundg g0
        case measure => omega
        case rel => exact ⟨i + 1, congrArg (Value.int .i64) (by rw [w64 i (by have := HLT.out; omega)]), ⟨by have := HI.out; omega⟩, ⟨by rw [HN.out]; exact RW.out⟩, HBq⟩
end Go.Proofs.YtphddbijdfmpjaaGreatDoor.Q
namespace Go.Proofs.YtphddbijdfmpjaaGreatDoor.Q
open Go.RowKit Go.MapRaw Go.Proofs.YtphddbijdfmpjaaGreatDoorW.PrintWords Go.Proofs.YtphddbijdfmpjaaGreatDoorW.PrintLast Go.Proofs.YtphddbijdfmpjaaGreatDoor.Wr Go.Proofs.YtphddbijdfmpjaaGreatDoor.Pl
set_option linter.unusedVariables false
set_option linter.unusedSimpArgs false
theorem Same.told {M : Tab} {L : List Bnd} (h : Same M L) : Told M L := ⟨h.perm, h.rise, h.keys⟩
theorem Same.apart {M : Tab} {L : List Bnd} (h : Same M L) : (L.map Q.keyB).Nodup := h.kper.nodup_iff.2 h.nodup
def cmpK (k l : Key) : Int := cmpB ⟨k.1, k.2, ⟨#[]⟩, 0⟩ ⟨l.1, l.2, ⟨#[]⟩, 0⟩
theorem rising_keys (L : List Bnd) : Rising L ↔ (L.map keyB).Pairwise fun a b => cmpK a b ≤ 0 := by
  unfold Rising
  rw [List.pairwise_map]
  exact Iff.rfl
theorem put_split {k : Key} {v : Bnd} : ∀ {M : Tab}, k ∈ M.map (fun x => x.1) → ∃ A x B, M = A ++ x :: B ∧ x.1 = k ∧ putA k v M = A ++ (k, v) :: B
  | [], h => by cases h
  | p :: r, h => by
    unfold putA
    by_cases e : p.1 = k
    · rw [if_pos e]
      exact ⟨[], p, r, rfl, e, rfl⟩
    · rw [if_neg e]
      rw [List.map_cons, List.mem_cons] at h
      obtain ⟨A, x, B, h1, h2, h3⟩ := put_split (v := v) (h.resolve_left (fun e2 => e e2.symm))
      exact ⟨p :: A, x, B, by rw [h1]; rfl, h2, by rw [h3]; rfl⟩
theorem Same.swap {M : Tab} {L : List Bnd} (h : Same M L) {b : Bnd} {i : Nat} (hf : formedB b = true) (hi : i < L.length) (hk : Q.keyB L[i] = Q.keyB b) : Wr.setE M b = 0 ∧ Same (setM M b) (L.set i b) := by
  have hin : Q.keyB b ∈ M.map (fun x => x.1) := h.kper.mem_iff.1 (List.mem_map.2 ⟨L[i], List.getElem_mem hi, hk⟩)
  have hs : (getA (b.path, b.name) M).isSome = true := getA_out.2 hin
  have he : Wr.setE M b = 0 := by
    unfold Wr.setE
    rw [if_pos hf, if_neg (fun e => by have h1 := e.1; rw [Option.isNone_iff_eq_none] at h1; rw [h1] at hs; cases hs)]
  have hm : setM M b = putA (Q.keyB b) b M := by
    unfold setM
    rw [if_pos he]; rfl
  refine ⟨he, ?_⟩
  have hnd := setM_nodup b h.nodup
  have hks : ∀ p ∈ setM M b, p.1 = (p.2.path, p.2.name) ∧ formedB p.2 = true := by
    intro p hp
    rw [hm] at hp
    rcases put_mem hp with rfl | hp
    · exact ⟨rfl, hf⟩
    · exact h.keys p hp
  obtain ⟨A, x, B, h1, h2, h3⟩ := put_split (v := b) hin
  refine ⟨?_, ?_, hks, hnd⟩
  · rw [hm, h3]
    have hx : x ∈ M := by rw [h1]; simp
    have hxl : x.2 ∈ L := h.perm.mem_iff.2 (List.mem_map.2 ⟨x, hx, rfl⟩)
    have hxe : x.2 = L[i] := key_inj h.apart hxl (List.getElem_mem hi) (by
      rw [hk, ← h2, (h.keys x hx).1]; rfl)
    have hp := h.perm
    rw [h1, List.map_append, List.map_cons, hxe] at hp
    have hL : L = L.take i ++ L[i] :: L.drop (i + 1) := by rw [← List.drop_eq_getElem_cons hi, List.take_append_drop]
    have hS : L.set i b = L.take i ++ b :: L.drop (i + 1) := List.set_eq_take_append_cons_drop.trans (if_pos hi)
    have hc : (L.take i ++ L.drop (i + 1)).Perm ((A.map fun p => p.2) ++ B.map fun p => p.2) := by
      have h4 : (L[i] :: (L.take i ++ L.drop (i + 1))).Perm (L[i] :: ((A.map fun p => p.2) ++ B.map fun p => p.2)) := by
        refine List.perm_middle.symm.trans (List.Perm.trans ?_ List.perm_middle)
        rw [← hL]; exact hp
      exact h4.cons_inv
    rw [hS, List.map_append, List.map_cons]
    exact List.perm_middle.trans ((List.Perm.cons b hc).trans List.perm_middle.symm)
  · have hr := h.rise
    rw [rising_keys] at hr ⊢
    rw [List.map_set, show (L.map Q.keyB).set i (Q.keyB b) = L.map Q.keyB from by
      rw [← hk]
      apply List.ext_getElem?
      intro j
      by_cases e : i = j
      · subst e
        rw [List.getElem?_set_self (by rw [List.length_map]; exact hi), List.getElem?_map, List.getElem?_eq_getElem hi]; rfl
      · rw [List.getElem?_set_ne e]]
    exact hr
theorem Same.filter {M : Tab} {L : List Bnd} (h : Same M L) (f : Bnd → Bool) (g : Key × Bnd → Bool) (hfg : ∀ x ∈ M, g x = f x.2) : Same (M.filter g) (L.filter f) := by
  refine ⟨?_, ?_, fun p hp => h.keys p (List.mem_filter.1 hp).1, ?_⟩
  · have h1 : (M.map fun p => p.2).filter f = (M.filter g).map fun p => p.2 := by
      rw [List.filter_map]
      congr 1
      exact (List.filter_congr fun x hx => by rw [hfg x hx]; rfl).symm
    rw [← h1]
    exact h.perm.filter f
  · exact List.Pairwise.filter _ h.rise
  · exact ((List.filter_sublist (l := M)).map _).nodup h.nodup
theorem del_filter (k : Key) : ∀ M : Tab, (M.map fun x => x.1).Nodup → delA k M = M.filter fun x => decide (x.1 ≠ k)
  | [], _ => rfl
  | p :: r, h => by
    rw [List.map_cons, List.nodup_cons] at h
    unfold delA
    by_cases e : p.1 = k
    · rw [if_pos e, List.filter_cons_of_neg (by simp [e])]
      symm
      rw [List.filter_eq_self]
      intro x hx
      rw [decide_eq_true_eq]
      intro e2
      exact h.1 (List.mem_map.2 ⟨x, hx, e2.trans e.symm⟩)
    · rw [if_neg e, List.filter_cons_of_pos (by simp [e]), del_filter k r h.2]
theorem Same.drop {M : Tab} {L : List Bnd} (h : Same M L) (q n : ByteArray) : dropE M q n = rDropE L q n ∧ Same (dropM M q n) (if pathS q ≠ 0 then L else keptL q n false L) := by
  unfold dropM dropE rDropE
  by_cases h0 : pathS q = 0
  · rw [if_pos h0, if_neg (show ¬ pathS q ≠ 0 from fun e => e h0), if_neg (show ¬ pathS q ≠ 0 from fun e => e h0)]
    by_cases hk : (getA (q, n) M).isSome = true
    · rw [if_pos hk, if_pos rfl, del_filter _ _ h.nodup]
      refine ⟨?_, h.filter _ _ (fun x hx => ?_)⟩
      · rw [if_neg]
        intro hl
        have hin := (h.has (q, n)).1 hk
        obtain ⟨b, hb, e⟩ := List.mem_map.1 hin
        have h1 : keptL q n false L = L := List.filter_eq_self.2 (by
          have := List.length_filter_eq_length_iff.1 hl
          exact this)
        have h2 := List.filter_eq_self.1 h1 b hb
        unfold gone at h2
        have e1 : b.path = q := congrArg Prod.fst e
        have e2 : b.name = n := congrArg Prod.snd e
        rw [decide_eq_true e1, decide_eq_true e2] at h2
        simp at h2
      · rw [(h.keys x hx).1]
        unfold gone
        by_cases e1 : x.2.path = q
        · by_cases e2 : x.2.name = n
          · simp [e1, e2]
          · simp [e1, e2]
        · simp [e1]
    · have hkl : keptL q n false L = L := by
        unfold keptL
        rw [List.filter_eq_self]
        intro b hb
        rw [Bool.not_eq_true']
        unfold gone
        by_cases e1 : b.path = q
        · by_cases e2 : b.name = n
          · exact absurd ((h.has (q, n)).2 (List.mem_map.2 ⟨b, hb, by unfold Q.keyB; rw [e1, e2]⟩)) hk
          · simp [e1, e2]
        · simp [e1]
      rw [if_neg hk, hkl, if_pos rfl, if_neg (by decide)]
      exact ⟨rfl, h⟩
  · rw [if_neg h0, if_pos h0, if_pos h0, if_neg (by decide)]
    exact ⟨rfl, h⟩
theorem cnt_kept (q n : ByteArray) : ∀ L : List Bnd, cntB q L + (keptL q n true L).length = L.length
  | [] => rfl
  | b :: r => by
    have ih := cnt_kept q n r
    unfold keptL at ih ⊢
    by_cases e : b.path = q
    · rw [List.filter_cons_of_neg (by unfold gone; simp [e])]
      simp only [cntB, if_pos e, List.length_cons]
      omega
    · rw [List.filter_cons_of_pos (by unfold gone; simp [e])]
      simp only [cntB, if_neg e, List.length_cons]
      omega
theorem Same.leave {M : Tab} {L : List Bnd} (h : Same M L) (q n : ByteArray) : Wr.cnt q M = L.length - (keptL q n true L).length ∧ Same (leaveM q M) (keptL q n true L) := by
  refine ⟨?_, h.filter _ _ (fun x hx => ?_)⟩
  · rw [← h.cnt q]
    have := cnt_kept q n L
    omega
  · rw [(h.keys x hx).1]
    unfold gone
    simp
theorem plen_lt {ns : List (List UInt8)} (hn : ns.all nameL = true) {a : Nat} : ∀ {b : Nat}, b ≤ ns.length → a < b → (pathL (ns.take a)).length < (pathL (ns.take b)).length
  | 0, _, h => by omega
  | b + 1, hb, h => by
    have hlt : b < ns.length := by omega
    have hne : ns[b] ≠ [] := fun e => by
      have := List.all_eq_true.1 hn ns[b] (List.getElem_mem hlt)
      rw [e] at this
      exact absurd this (by decide)
    have hl : 0 < ns[b].length := List.length_pos_iff.2 hne
    have e1 : pathL (ns.take (b + 1)) = flat (ns.take b) ++ 47 :: ns[b] := by
      rw [take_snoc ns b hlt]
      unfold pathL
      rw [if_neg (fun h => by have := congrArg List.length h; rw [List.length_append] at this; simp at this), flat_snoc]
    have h1 : (pathL (ns.take b)).length < (pathL (ns.take (b + 1))).length := by
      rw [e1]
      by_cases hb0 : ns.take b = []
      · rw [hb0, flat_nil]
        show 1 < ([] ++ 47 :: ns[b]).length
        simp only [List.nil_append, List.length_cons]
        omega
      · unfold pathL
        rw [if_neg hb0]
        simp only [List.length_append, List.length_cons]
        omega
    rcases Nat.lt_or_ge a b with h2 | h2
    · exact Nat.lt_trans (plen_lt hn (by omega) h2) h1
    · obtain rfl : a = b := by omega
      exact h1
theorem line_size {p x y : ByteArray} (hx : underS p x = true) (hy : underS p y = true) : ((splitS x).1.length < (splitS y).1.length → x.size < y.size) ∧ ((splitS x).1.length = (splitS y).1.length → x = y) := by
  rw [under_iff] at hx hy
  obtain ⟨hp, hxp, _⟩ := line_mem hx
  obtain ⟨ns, a1, a2⟩ := path_is hp
  rw [lineS_path a1] at hx hy
  obtain ⟨a, ha, ea⟩ := (mem_upto _ _ _).1 hx
  obtain ⟨b, hb, eb⟩ := (mem_upto _ _ _).1 hy
  have sa := isPath_of x _ (ea ▸ isPath_take a1 a)
  have sb := isPath_of y _ (eb ▸ isPath_take a1 b)
  have la : (splitS x).1.length = a := by rw [sa]; simp; omega
  have lb : (splitS y).1.length = b := by rw [sb]; simp; omega
  rw [la, lb]
  refine ⟨fun h => ?_, fun h => by rw [ea, eb, h]⟩
  rw [ea, eb, toB_size, toB_size]
  exact plen_lt a1.names hb h
theorem why_same {M : Tab} {L : List Bnd} (h : Same M L) {s : ByteArray} {v : Int} {p : ByteArray} {c : Bnd} {fd : Bool} {o : Option Nat} (hw : WhyIs M s v p c fd) (ho : BestI L (fun b => givesB b s v p) L.length o) : fd = o.isSome ∧ c = whyL L o := by
  have hfd : fd = o.isSome := by rw [hw.found, ho.isSome, ← h.told.any]
  refine ⟨hfd, ?_⟩
  cases o with
  | none =>
    obtain rfl : fd = false := hfd
    exact why_none hw
  | some j =>
    obtain rfl : fd = true := hfd
    obtain ⟨hc, hg, hmin⟩ := why_found h.told hw
    obtain ⟨hj, _, hfj, hbest⟩ := ho
    obtain ⟨k, hk, hkc⟩ := List.getElem_of_mem hc
    subst hkc
    have hm := hmin L[j] (List.getElem_mem hj) hfj
    have hb := hbest k hk hk hg
    have ux : underS p L[k].path = true := ((givesB_iff _ _ _ _).1 hg).2.2.2
    have uy : underS p L[j].path = true := ((givesB_iff _ _ _ _).1 hfj).2.2.2
    have hle : (splitS L[k].path).1.length ≤ (splitS L[j].path).1.length := by
      rcases Nat.lt_or_ge (splitS L[j].path).1.length (splitS L[k].path).1.length with h1 | h1
      · have := (line_size uy ux).1 h1
        omega
      · exact h1
    have hpe : L[j].path = L[k].path := (line_size uy ux).2 (by omega)
    have hgoal : L[k] = L[j] := by
      rcases Nat.lt_trichotomy k j with h1 | h1 | h1
      · have := hb.2 h1
        rw [hpe] at this
        omega
      · subst h1; rfl
      · have hr := (List.pairwise_iff_getElem.1 h.rise) j k hj hk h1
        unfold cmpB at hr
        rw [hpe, ordL.self, if_neg (by decide)] at hr
        have h2 : ¬ cmpS L[j].name L[k].name < 0 := fun h3 => hm.2 ⟨hpe, (cmpS_lt _ _).1 h3⟩
        have hne : L[j].name = L[k].name := cmpS_zero (by omega)
        exact key_inj h.apart (List.getElem_mem hk) (List.getElem_mem hj) (by unfold Q.keyB; rw [hpe, hne])
    rw [hgoal]
    unfold whyL
    simp [List.getD_eq_getElem?_getD, hj]
theorem may_same {M : Tab} {L : List Bnd} (h : Same M L) (s : ByteArray) (v : Int) (p : ByteArray) : mayB M s v p = rmayB L s v p := by
  unfold mayB rmayB
  by_cases hs : s = rootS
  · rw [if_pos hs, decide_eq_true hs, Bool.or_true, Bool.and_true]
  · rw [if_neg hs, decide_eq_false hs, Bool.or_false, h.told.any]
    cases hw : whyB M s v p with
    | false => rw [Bool.and_false]
    | true =>
      obtain ⟨h1, q, hq, _⟩ := (whyB_iff M s v p).1 hw
      rw [(isV_iff v).2 h1, decide_eq_true (line_mem hq).1]; rfl
end Go.Proofs.YtphddbijdfmpjaaGreatDoor.Q
namespace Go.Proofs.YtphddbijdfmpjaaGreatDoor.Q
open Go.RowKit Go.MapRaw Go.Proofs.YtphddbijdfmpjaaGreatDoorW.PrintWords Go.Proofs.YtphddbijdfmpjaaGreatDoorW.PrintLast Go.Proofs.YtphddbijdfmpjaaGreatDoor.Wr Go.Proofs.YtphddbijdfmpjaaGreatDoor.Pl
set_option linter.unusedVariables false
set_option linter.unusedSimpArgs false
theorem same_self3 {ar : Array Value} {w : World} {L : List Bnd} (h : Calls Tryz.prog 7 ar w fun e w' => e = .returned (.bool (sameB L L)) ∧ Below w.heap.size w w') : Calls Tryz.prog 7 ar w fun e w' => e = .returned (.bool true) ∧ Below w.heap.size w w' := by
  rw [(sameB_iff L L).2 rfl] at h; exact h
def leP (a b : ByteArray) : Prop := cmpL (splitS a).1 (splitS b).1 ≤ 0
theorem leP_anti {a b : ByteArray} (ha : pathS a = 0) (hb : pathS b = 0) (h1 : leP a b) (h2 : leP b a) : a = b := by
  unfold leP at h1 h2
  have := cmpL_neg (splitS a).1 (splitS b).1
  exact split_inj ha hb (cmpL_zero (by omega))
theorem cmpL_pre : ∀ (x t : List ByteArray), t ≠ [] → cmpL x (x ++ t) < 0
  | [], [], h => absurd rfl h
  | [], _ :: _, _ => by show (-1 : Int) < 0; decide
  | a :: x, t, h => by
    show (if cmpS a a ≠ 0 then cmpS a a else cmpL x (x ++ t)) < 0
    rw [if_neg (fun e => e (ordS.self a))]
    exact cmpL_pre x t h
theorem under_le {p q : ByteArray} (h : underS p q = true) (hne : q ≠ p) : ¬ leP p q := by
  rw [under_iff] at h
  obtain ⟨hp, hq, _⟩ := line_mem h
  obtain ⟨ns, a1, a2⟩ := path_is hp
  obtain ⟨ms, b1, b2⟩ := path_is hq
  rw [lineS_path a1] at h
  obtain ⟨t, ht⟩ := (mem_line a1 b1).1 h
  have htn : t ≠ [] := fun e => by
    rw [e, List.append_nil] at ht
    exact hne (by rw [s_of b1, s_of a1, ht])
  unfold leP
  rw [a2, b2]
  show ¬ cmpL (ns.map toB) (ms.map toB) ≤ 0
  have h1 := cmpL_pre (ms.map toB) (t.map toB) (fun e => htn (List.map_eq_nil_iff.1 e))
  have h2 := cmpL_neg (ms.map toB) (ns.map toB)
  rw [← ht, List.map_append] at *
  omega
theorem compact_pairwise {zs : List (List UInt8)} {R : List UInt8 → List UInt8 → Prop} (hs : zs.Pairwise R) : (Go.Lib.compact zs).Pairwise R := by
  unfold Go.Lib.compact Go.Lib.compactUpTo
  have hp := List.pairwise_iff_getElem.1 hs
  have hr : ((List.range zs.length).filter (Go.Lib.keeps zs.toArray)).Pairwise (fun i j => i < j) := List.Pairwise.filter _ List.pairwise_lt_range
  rw [List.pairwise_map]
  refine hr.imp_of_mem ?_
  intro i j hi hj hij
  have hjl : j < zs.length := List.mem_range.1 (List.mem_filter.1 hj).1
  have hil : i < zs.length := by omega
  have e1 : zs.toArray[i]! = zs[i] := by simp [hil]
  have e2 : zs.toArray[j]! = zs[j] := by simp [hjl]
  rw [e1, e2]
  exact hp i j hil hjl hij
theorem compactB_pairwise {xs : List ByteArray} {R : ByteArray → ByteArray → Prop} (hs : xs.Pairwise R) : (compactB xs).Pairwise R := by
  unfold compactB
  have h1 : (xs.map (·.data.toList)).Pairwise (fun a b => R (toB a) (toB b)) := by
    rw [List.pairwise_map]
    refine hs.imp ?_
    intro a b h
    rw [toB_of, toB_of]; exact h
  rw [List.pairwise_map]
  exact compact_pairwise h1
structure Tops (P acc : List ByteArray) : Prop where
  sorted : acc.Pairwise leP
  nodup : acc.Nodup
  mem : ∀ x, x ∈ acc ↔ x ∈ P ∧ ∀ q ∈ P, belowP x q = false
theorem Tops.above {P acc : List ByteArray} (h : Tops P acc) (hv : ∀ q ∈ P, pathS q = 0) : ∀ (n : Nat) (q : ByteArray), (splitS q).1.length ≤ n → q ∈ P → ∃ r ∈ acc, underS q r = true
  | n, q, hn, hq => by
    by_cases h1 : ∀ t ∈ P, belowP q t = false
    · exact ⟨q, (h.mem q).2 ⟨hq, h1⟩, under_self (hv q hq)⟩
    · simp only [Classical.not_forall, Bool.not_eq_false] at h1
      obtain ⟨t, ht, hb⟩ := h1
      obtain ⟨hne, hu⟩ := (belowP_iff _ _).1 hb
      have hlt := (under_len hu).2 hne
      cases n with
      | zero => omega
      | succ n =>
        obtain ⟨r, hr, hur⟩ := h.above hv n t (by omega) ht
        exact ⟨r, hr, under_trans hu hur⟩
theorem Tops.step {P acc : List ByteArray} (h : Tops P acc) {p : ByteArray} (hv : ∀ q ∈ P, pathS q = 0) (hp : pathS p = 0) (hs : ∀ q ∈ P, leP q p) : Tops (P ++ [p]) (stepR acc p) := by
  have hsub : ∀ x ∈ acc, x ∈ P := fun x hx => ((h.mem x).1 hx).1
  have keep : ∀ x ∈ P, x ≠ p → belowP x p = false := by
    intro x hx hne
    rw [Bool.eq_false_iff]
    intro hb
    obtain ⟨_, hu⟩ := (belowP_iff _ _).1 hb
    exact under_le hu (fun e => hne e.symm) (hs x hx)
  unfold stepR
  by_cases ha : (acc.any fun q => underS p q) = true
  · rw [if_pos ha]
    obtain ⟨q, hq, hu⟩ := List.any_eq_true.1 ha
    refine ⟨h.sorted, h.nodup, fun x => ?_⟩
    rw [h.mem]
    constructor
    · rintro ⟨hx, hb⟩
      refine ⟨List.mem_append_left _ hx, fun y hy => ?_⟩
      rcases List.mem_append.1 hy with hy | hy
      · exact hb y hy
      · obtain rfl : y = p := by simpa using hy
        by_cases e : x = y
        · subst e; unfold belowP; simp
        · exact keep x hx e
    · rintro ⟨hx, hb⟩
      rcases List.mem_append.1 hx with hx | hx
      · exact ⟨hx, fun y hy => hb y (List.mem_append_left _ hy)⟩
      · obtain rfl : x = p := by simpa using hx
        have h1 := hb q (List.mem_append_left _ (hsub q hq))
        by_cases e : q = x
        · subst e
          exact ⟨hsub q hq, fun y hy => hb y (List.mem_append_left _ hy)⟩
        · rw [Bool.eq_false_iff] at h1
          exact absurd ((belowP_iff _ _).2 ⟨e, hu⟩) h1
  · rw [if_neg ha]
    have hna : ∀ q ∈ acc, underS p q = false := by
      intro q hq
      rw [Bool.eq_false_iff]
      exact fun hu => ha (List.any_eq_true.2 ⟨q, hq, hu⟩)
    have htop : ∀ q ∈ P, underS p q = false := by
      intro q hq
      rw [Bool.eq_false_iff]
      intro hu
      obtain ⟨r, hr, hur⟩ := h.above hv _ q (Nat.le_refl _) hq
      have := hna r hr
      rw [under_trans hu hur] at this
      cases this
    refine ⟨?_, ?_, fun x => ?_⟩
    · rw [List.pairwise_append]
      exact ⟨h.sorted, List.pairwise_singleton _ _, fun a hax b hb => by
        obtain rfl : b = p := by simpa using hb
        exact hs a (hsub a hax)⟩
    · rw [List.nodup_append]
      refine ⟨h.nodup, by simp, fun a hax b hb => ?_⟩
      obtain rfl : b = p := by simpa using hb
      intro e
      subst e
      have := hna a hax
      rw [under_self hp] at this
      cases this
    · rw [List.mem_append, h.mem, List.mem_append]
      constructor
      · rintro (⟨hx, hb⟩ | hx)
        · refine ⟨.inl hx, fun y hy => ?_⟩
          rcases List.mem_append.1 hy with hy | hy
          · exact hb y hy
          · obtain rfl : y = p := by simpa using hy
            by_cases e : x = y
            · subst e; unfold belowP; simp
            · exact keep x hx e
        · obtain rfl : x = p := by simpa using hx
          refine ⟨.inr hx, fun y hy => ?_⟩
          rcases List.mem_append.1 hy with hy | hy
          · unfold belowP; rw [htop y hy, Bool.and_false]
          · obtain rfl : y = x := by simpa using hy
            unfold belowP; simp
      · rintro ⟨hx | hx, hb⟩
        · exact .inl ⟨hx, fun y hy => hb y (List.mem_append_left _ hy)⟩
        · exact .inr hx
theorem Tops.all : ∀ (R P acc : List ByteArray), Tops P acc → (∀ q ∈ P ++ R, pathS q = 0) → (P ++ R).Pairwise leP → Tops (P ++ R) (R.foldl stepR acc)
  | [], P, acc, h, _, _ => by rw [List.append_nil]; exact h
  | p :: R, P, acc, h, hv, hs => by
    have e : P ++ p :: R = (P ++ [p]) ++ R := by simp
    rw [e] at hv hs ⊢
    rw [List.foldl_cons]
    refine Tops.all R (P ++ [p]) (stepR acc p) (h.step (fun q hq => hv q (by simp [hq])) (hv p (by simp)) (fun q hq => ?_)) hv hs
    have h1 := (List.pairwise_append.1 hs).1
    exact (List.pairwise_append.1 h1).2.2 q hq p (by simp)
theorem reach_same {M : Tab} {L : List Bnd} (h : Same M L) {s : ByteArray} {v : Int} : reachS L s v = rreachS L s v := by
  unfold reachS rreachS
  by_cases hv : isV v = true
  · rw [if_pos hv, if_pos hv]
    by_cases hs : s = rootS
    · rw [if_pos hs, if_pos hs]
    · rw [if_neg hs, if_neg hs]
      have h0 := (isV_iff v).1 hv
      obtain ⟨qs, hqs⟩ : ∃ qs, qs = (L.filter fun b => decide (b.subject = s ∧ v ≤ b.verb)).map (·.path) := ⟨_, rfl⟩
      have hf : (L.filter fun b => givesB b s v b.path) = L.filter fun b => decide (b.subject = s ∧ v ≤ b.verb) := by
        refine List.filter_congr fun b hb => ?_
        rw [Bool.eq_iff_iff, givesB_iff, decide_eq_true_eq]
        exact ⟨fun h1 => ⟨h1.1, h1.2.2.1⟩, fun h1 => ⟨h1.1, h0.1, h1.2, under_self (formed_path (h.formed b hb))⟩⟩
      have hval : ∀ q ∈ qs, pathS q = 0 := by
        intro q hq
        rw [hqs] at hq
        obtain ⟨b, hb, rfl⟩ := List.mem_map.1 hq
        exact formed_path (h.formed b (List.mem_filter.1 hb).1)
      have hsort : qs.Pairwise leP := by
        rw [hqs, List.pairwise_map]
        refine (List.Pairwise.filter _ h.rise).imp ?_
        intro a b h1
        unfold leP
        unfold cmpB at h1
        by_cases e : cmpL (splitS a.path).1 (splitS b.path).1 ≠ 0
        · rw [if_pos e] at h1; exact h1
        · omega
      have ht := Tops.all qs [] [] ⟨List.Pairwise.nil, List.nodup_nil, fun x => by simp⟩ (by simpa using hval) (by simpa using hsort)
      rw [List.nil_append] at ht
      have hr : rreachL L s v = qs.foldl stepR [] := by unfold rreachL; rw [hf, hqs]
      have ha : allL L s v = compactB qs := by unfold allL; rw [hqs]
      have hn : (reachL L s v).Nodup := List.Pairwise.filter _ (allL_nodup h.rise h.formed s v)
      have hs2 : (reachL L s v).Pairwise leP := by
        unfold reachL
        rw [ha]
        exact List.Pairwise.filter _ (compactB_pairwise hsort)
      have hmem : ∀ x, x ∈ reachL L s v ↔ x ∈ qs ∧ ∀ q ∈ qs, belowP x q = false := by
        intro x
        rw [reachL_mem, ha, compactB_mem]
        exact ⟨fun h1 => ⟨h1.1, fun q hq => h1.2 q ((compactB_mem _ _).2 hq)⟩, fun h1 => ⟨h1.1, fun q hq => h1.2 q ((compactB_mem _ _).1 hq)⟩⟩
      rw [hr]
      have hp : (reachL L s v).Perm (qs.foldl stepR []) := (List.perm_ext_iff_of_nodup hn ht.nodup).2 fun x => by rw [hmem, ht.mem]
      refine List.Perm.eq_of_pairwise (le := leP) ?_ hs2 ht.sorted hp
      intro a b ha hb h1 h2
      exact leP_anti (hval a ((hmem a).1 ha).1) (hval b ((ht.mem b).1 hb).1) h1 h2
  · rw [if_neg hv, if_neg hv]
end Go.Proofs.YtphddbijdfmpjaaGreatDoor.Q
namespace Go.Proofs.YtphddbijdfmpjaaGreatDoor.Q
open Go.RowKit Go.MapRaw Go.Proofs.YtphddbijdfmpjaaGreatDoorW.PrintWords Go.Proofs.YtphddbijdfmpjaaGreatDoorW.PrintLast Go.Proofs.YtphddbijdfmpjaaGreatDoor.Wr
set_option linter.unusedVariables false
set_option linter.unusedSimpArgs false
structure PStep (w w' : World) (b r : Nat) (v v' : Value) : Prop where
  os : w'.os = w.os
  tape : w'.tape = w.tape
  output : w'.output = w.output
  size : w.heap.size ≤ w'.heap.size
  block : ∀ k, k < w.heap.size → k ≠ b → k ≠ r → v.ownBlock ≠ some k → w'.heap[k]? = w.heap[k]?
  own : ∀ k, v'.ownBlock = some k → v.ownBlock = some k ∨ w.heap.size ≤ k
theorem PStep.still {w w' : World} {b r : Nat} {v : Value} (h : Below w.heap.size w w') : PStep w w' b r v v := ⟨h.os, h.tape, h.output, h.size, fun k hk _ _ _ => h.block k hk, fun k hk => .inl hk⟩
theorem PStep.both {w w1 w2 w3 : World} {b r : Nat} {v v' : Value} (h : Below w.heap.size w w1) (h2 : Off b w1 w2) (h3 : RStep w2 w3 r v v') : PStep w w3 b r v v' :=
  ⟨h3.os.trans (h2.os.trans h.os), h3.tape.trans (h2.tape.trans h.tape), h3.output.trans (h2.output.trans h.output), Nat.le_trans h.size (Nat.le_trans h2.size h3.size), fun k hk hb hr ho => (h3.block k (Nat.lt_of_lt_of_le hk (Nat.le_trans h.size h2.size)) hr ho).trans ((h2.block k (Nat.lt_of_lt_of_le hk h.size) hb).trans (h.block k hk)), fun k hk => (h3.own k hk).imp id (fun h4 => Nat.le_trans (Nat.le_trans h.size h2.size) h4)⟩
structure PPost (w w' : World) (t b r base : Nat) (v : Value) (L : List Bnd) : Prop where
  out : ∃ M' L' v', TB w' t b M' ∧ RT w' r base v' L' ∧ Same M' L' ∧ L'.length ≤ L.length + 1 ∧ PStep w w' b r v v'
theorem rset_same (w : World) (r base : Nat) (v : Value) (L : List Bnd) (b : Bnd) (M : Tab) (hT : RT w r base v L) (hS : Same M L) (hbr : base ≤ r) (hbw : base ≤ w.heap.size) (hbs : b.path.size ≤ 1048576) (hL : L.length ≤ 1048576) :
    Calls Tryz.prog 11 #[.pointer (some ⟨r, 0, none⟩), eV b] w fun e w' => e = .returned (.int .i64 (setE M b)) ∧ ∃ v' L', RT w' r base v' L' ∧ Same (setM M b) L' ∧ L'.length ≤ L.length + 1 ∧ RStep w w' r v v' := by
  have hLs : ∀ x ∈ L, x.path.size ≤ 1048576 := fun x hx => by have := path_size (formed_path (hS.formed x hx)); omega
  by_cases hf : formedB b = true ∧ Q.keyB b ∈ L.map Q.keyB
  · obtain ⟨hf, hk⟩ := hf
    obtain ⟨i, h1, h2, h3⟩ := idxB_at b.path b.name L 0 ((idxB_iff b.path b.name L 0).2 hk)
    rw [Nat.zero_add] at h1
    have hs := hS.swap hf h2 h3
    refine (rset2_ok w r base v L b i hT hbs hf h2 h1 hL).mono ?_
    rintro e w' ⟨rfl, hR, hP⟩
    exact ⟨by rw [hs.1], v, _, hR, hs.2, by rw [List.length_set]; omega, hP⟩
  · have hn : formedB b = true → Q.keyB b ∉ L.map Q.keyB := fun h1 h2 => hf ⟨h1, h2⟩
    refine (rset_ok w w r base v L b hT (Below.refl _ _) hbr hbw hbs hLs hn hL).mono ?_
    rintro e w' ⟨rfl, v', hR, hP⟩
    by_cases hfm : formedB b = true
    · have hk := hn hfm
      refine ⟨by rw [hS.setE hk], v', _, hR, ?_, ?_, hP⟩
      · by_cases h0 : rSetE L b = 0
        · rw [if_pos h0]; exact hS.set hk h0
        · rw [if_neg h0]
          have : setM M b = M := by unfold setM; rw [if_neg (by rw [hS.setE hk]; exact h0)]
          rw [this]; exact hS
      · split
        · rw [insF_len]; exact Nat.le_refl _
        · omega
    · have h1 : rSetE L b = 130 := by unfold rSetE; rw [if_neg hfm]
      have h2 : setE M b = 130 := by unfold setE; rw [if_neg hfm]
      have h3 : setM M b = M := by unfold setM; rw [if_neg (by rw [h2]; decide)]
      refine ⟨by rw [h1, h2], v', _, hR, ?_, ?_, hP⟩
      · rw [h1, if_neg (by decide), h3]; exact hS
      · rw [h1, if_neg (by decide)]; omega
theorem rdrop_same (w : World) (r base : Nat) (v : Value) (L : List Bnd) (q n : ByteArray) (M : Tab) (hT : RT w r base v L) (hS : Same M L) (hbw : base ≤ w.heap.size) (hq : q.size ≤ 1048576) (hL : L.length ≤ 1048576) :
    Calls Tryz.prog 13 #[.pointer (some ⟨r, 0, none⟩), .string q, .string n] w fun e w' => e = .returned (.int .i64 (dropE M q n)) ∧ ∃ v' L', RT w' r base v' L' ∧ Same (dropM M q n) L' ∧ L'.length ≤ L.length + 1 ∧ RStep w w' r v v' := by
  refine (rdrop_ok w r base v L q n hT hbw hL hq).mono ?_
  rintro e w' ⟨rfl, v', hR, hP⟩
  have hs := hS.drop q n
  refine ⟨by rw [hs.1], v', _, hR, hs.2, ?_, hP⟩
  split
  · omega
  · have := keptL_len q n false L; omega
theorem rleave_same (w : World) (r base : Nat) (v : Value) (L : List Bnd) (q : ByteArray) (M : Tab) (hT : RT w r base v L) (hS : Same M L) (hbw : base ≤ w.heap.size) (hL : L.length ≤ 1048576) :
    Calls Tryz.prog 15 #[.pointer (some ⟨r, 0, none⟩), .string q] w fun e w' => e = .returned (.int .i64 (cnt q M : Nat)) ∧ ∃ v' L', RT w' r base v' L' ∧ Same (leaveM q M) L' ∧ L'.length ≤ L.length + 1 ∧ RStep w w' r v v' := by
  refine (rleave_ok w r base v L q hT hbw hL).mono ?_
  rintro e w' ⟨rfl, v', hR, hP⟩
  have hs := hS.leave q ⟨#[]⟩
  exact ⟨by rw [hs.1], v', _, hR, hs.2, by have := keptL_len q ⟨#[]⟩ true L; omega, hP⟩
attribute [local go_sem high] eqA27
set_option maxRecDepth 100000 in
set_option maxHeartbeats 32000000 in
theorem plays_ok (w : World) (t b r base : Nat) (v : Value) (M : Tab) (L : List Bnd) (o : OpV) (hT : TB w t b M) (hR : RT w r base v L) (hS : Same M L) (hrt : t ≠ r) (hrb : r ≠ b) (how : ∀ k, v.ownBlock = some k → k ≠ t ∧ k ≠ b) (hbr : base ≤ r) (hbw : base ≤ w.heap.size) (hG : Glob w) (hL : L.length ≤ 1048576) (hob : o.b.path.size ≤ 1048576) (hop : o.path.size ≤ 1048576) :
    Calls Tryz.prog 6 #[.pointer (some ⟨t, 0, none⟩), .pointer (some ⟨r, 0, none⟩), eO o] w fun e w' => e = .returned (.bool true) ∧ PPost w w' t b r base v L := by
  obtain ⟨two, kd, vb, ⟨bp, bn, bs, bv⟩, pa, na, su⟩ := o
  have hu28 := Tryz.underlying28
  have hu30 := Tryz.underlying30
  have hML : M.length = L.length := by have := hS.perm.length_eq; rw [List.length_map] at this; exact this.symm
  have hal := (Below.refl w.heap.size w).alloc (Nat.le_refl _) (.cells #[.bool two, .int .i64 kd, .int .i64 vb, .string bp, .string bn, .string bs, .int .i64 bv, .string pa, .string na, .string su] 30)
  have AL := Aside0.mk hal
  have NW := Aside0.mk (blk_new w (.cells #[.bool two, .int .i64 kd, .int .i64 vb, .string bp, .string bn, .string bs, .int .i64 bv, .string pa, .string na, .string su] 30))
  have TL := Aside0.mk (TB.below hT hal)
  have RL := Aside0.mk (hR.below hal)
  have GL := Lib.hid hG
  have HS := Lib.hid hS
  have HM := Lib.hid (show M.length ≤ 2513169434843 by omega)
  have HLL := Lib.hid hL
  have HBP := Lib.hid hob
  have HPA := Lib.hid hop
  have HBR := Lib.hid hbr
  have HBW := Lib.hid hbw
  have HTR := Lib.hid hrt
  have HRB := Lib.hid hrb
  have HOW := Lib.hid how
  have HPB := Lib.hid (show w.heap.size ≠ b from fun e => by have := Holds_lt hT.holds; omega)
  have HPR := Lib.hid (show w.heap.size ≠ r from fun e => by have := hR.lt; omega)
  have HPO := Lib.hid (show ∀ k, v.ownBlock = some k → k ≠ w.heap.size from fun k hk e => by have := (hR.own_lt k hk).2.1; omega)
  clear hal hT hR hS hG hL hob hop hbr hbw hrt hrb how hML
  unfold eO
  go_enter Tryz.func6, Tryz.ntmps6
  go_upto_region 1 with fail
  obtain ⟨pp, hpp⟩ : ∃ pp, pp = w.heap.size := ⟨_, rfl⟩
  rw [← hpp] at NW HPB HPR HPO ⊢
  clear hpp
  generalize w.alloc _ = w1 at AL NW TL RL ⊢
  have hd0 := (blk_cell NW.out 0).trans rfl
  have hd1 := (blk_cell NW.out 1).trans rfl
  have hd2 := (blk_cell NW.out 2).trans rfl
  have hd3 := (blk_cell NW.out 3).trans rfl
  have hd4 := (blk_cell NW.out 4).trans rfl
  have hd5 := (blk_cell NW.out 5).trans rfl
  have hd6 := (blk_cell NW.out 6).trans rfl
  have hd7 := (blk_cell NW.out 7).trans rfl
  have hd8 := (blk_cell NW.out 8).trans rfl
  have hd9 := (blk_cell NW.out 9).trans rfl
  by_cases c1 : kd = 1
  · have e1 : (kd == 1) = true := beq_iff_eq.2 c1
    have SK := Lib.hid (fun w' (h1 : TB w' t b M) (h2 : Glob w') => set_ok w' t b M ⟨bp, bn, bs, bv⟩ h1 h2 HM.out)
    have RSK := Lib.hid (fun w' (h1 : RT w' r base v L) (h2 : base ≤ w'.heap.size) => rset_same w' r base v L ⟨bp, bn, bs, bv⟩ M h1 HS.out HBR.out h2 HBP.out HLL.out)
    unfold eV at SK RSK
    go_upto_region 3 with fail
    clear hd0 hd1 hd2 hd3 hd4 hd5 hd6 hd7 hd8 hd9
    refine start_ (n := 10) (S := fun w' => w'.cell? ⟨pp, 0, none⟩ = some (.bool two) ∧ w'.cell? ⟨pp, 1, none⟩ = some (.int .i64 kd) ∧ w'.cell? ⟨pp, 2, none⟩ = some (.int .i64 vb) ∧ w'.cell? ⟨pp, 3, none⟩ = some (.string bp) ∧ w'.cell? ⟨pp, 4, none⟩ = some (.string bn) ∧ w'.cell? ⟨pp, 5, none⟩ = some (.string bs) ∧ w'.cell? ⟨pp, 6, none⟩ = some (.int .i64 bv) ∧ w'.cell? ⟨pp, 7, none⟩ = some (.string pa) ∧ w'.cell? ⟨pp, 8, none⟩ = some (.string na) ∧ w'.cell? ⟨pp, 9, none⟩ = some (.string su)) (ds := []) #[false, false, false, false, false, false, false, false, false, false] (by kernel_rfl) rfl rfl ⟨(blk_cell (blk_drew NW.out) 0).trans rfl, (blk_cell (blk_drew NW.out) 1).trans rfl, (blk_cell (blk_drew NW.out) 2).trans rfl, (blk_cell (blk_drew NW.out) 3).trans rfl, (blk_cell (blk_drew NW.out) 4).trans rfl, (blk_cell (blk_drew NW.out) 5).trans rfl, (blk_cell (blk_drew NW.out) 6).trans rfl, (blk_cell (blk_drew NW.out) 7).trans rfl, (blk_cell (blk_drew NW.out) 8).trans rfl, (blk_cell (blk_drew NW.out) 9).trans rfl⟩ (fun hHeld => ?_)
    have AD := Aside0.mk (below_drew1 AL.out)
    have ND := Aside0.mk (blk_drew NW.out)
    have TD := Aside0.mk (TL.out.below (below_drew (Below.refl _ _)))
    have RD := Aside0.mk (RL.out.below (below_drew (Below.refl _ _)))
    clear AL NW TL RL
    generalize w1.drew = wd at AD ND TD RD hHeld ⊢
    refine pure_ (i := 0) (N := some 15) (v := ?_) (a' := ?_) #[true, false, false, false, false, false, false, false, false, false] rfl rfl (by kernel_rfl) (fun _ _ _ h => h) (Or.inl ⟨by rfl, ?_⟩) ?_ ?_
    rotate_left
    · intro w'
      go_simp
      with_reducible rfl
    rotate_left
    · simp only [Act.put, List.setIfInBounds_toArray, List.set_cons_zero, List.set_cons_succ, i64_w, i32_w]
      rfl
    refine pure_ (i := 1) (N := some 16) (v := ?_) (a' := ?_) #[true, true, false, false, false, false, false, false, false, false] rfl rfl (by kernel_rfl) (fun _ _ _ h => h) (Or.inl ⟨by rfl, ?_⟩) ?_ ?_
    rotate_left
    · intro w'
      go_simp
      with_reducible rfl
    rotate_left
    · simp only [Act.put, List.setIfInBounds_toArray, List.set_cons_zero, List.set_cons_succ, i64_w, i32_w]
      rfl
    refine take_ (i := 2) (N := some 17) (v := ?_) (a' := ?_) #[true, true, true, false, false, false, false, false, false, false] rfl rfl (by kernel_rfl) (fun _ _ _ h => h) (Or.inl ⟨by rfl, ?_⟩) hHeld ?_ ?_
    rotate_left
    · rintro w' ⟨s0, s1, s2, s3, s4, s5, s6, s7, s8, s9⟩
      go_simp
      with_reducible rfl
    rotate_left
    · simp only [Act.put, List.setIfInBounds_toArray, List.set_cons_zero, List.set_cons_succ, i64_w, i32_w]
      rfl
    refine pure_ (i := 4) (N := some 19) (v := ?_) (a' := ?_) #[true, true, true, false, true, false, false, false, false, false] rfl rfl (by kernel_rfl) (fun _ _ _ h => h) (Or.inl ⟨by rfl, ?_⟩) ?_ ?_
    rotate_left
    · intro w'
      go_simp
      with_reducible rfl
    rotate_left
    · simp only [Act.put, List.setIfInBounds_toArray, List.set_cons_zero, List.set_cons_succ, i64_w, i32_w]
      rfl
    refine pure_ (i := 5) (N := some 20) (v := ?_) (a' := ?_) #[true, true, true, false, true, true, false, false, false, false] rfl rfl (by kernel_rfl) (fun _ _ _ h => h) (Or.inl ⟨by rfl, ?_⟩) ?_ ?_
    rotate_left
    · intro w'
      go_simp
      with_reducible rfl
    rotate_left
    · simp only [Act.put, List.setIfInBounds_toArray, List.set_cons_zero, List.set_cons_succ, i64_w, i32_w]
      rfl
    refine take_ (i := 6) (N := some 21) (v := ?_) (a' := ?_) #[true, true, true, false, true, true, true, false, false, false] rfl rfl (by kernel_rfl) (fun _ _ _ h => h) (Or.inl ⟨by rfl, ?_⟩) hHeld ?_ ?_
    rotate_left
    · rintro w' ⟨s0, s1, s2, s3, s4, s5, s6, s7, s8, s9⟩
      go_simp
      with_reducible rfl
    rotate_left
    · simp only [Act.put, List.setIfInBounds_toArray, List.set_cons_zero, List.set_cons_succ, i64_w, i32_w]
      rfl
    refine one_ (i := 3) (N := some 18) #[true, true, true, true, true, true, true, false, false, false] rfl rfl (by kernel_rfl) (by decide) (fun K hK => ?_)
    refine goes_ Tryz.func10 (by kernel_rfl) rfl #[.pointer (some ⟨t, 0, none⟩), .agg #[.string bp, .string bn, .string bs, .int .i64 bv]] (by rfl) rfl rfl (by (try simp only [List.map_toArray, List.map_cons, List.map_nil]); first | done | rfl) ?_
    with_reducible refine (SK.out wd TD.out (GL.out.below AD.out)).mono ?_
    rintro e wz ⟨rfl, hT2, hO2⟩
    have T2 := Aside0.mk hT2
    have O2 := Aside0.mk hO2
    have N2 := Aside0.mk ((O2.out.block pp (blk_lt ND.out) HPB.out).trans ND.out)
    have R2 := Aside0.mk (RD.out.keep (O2.out.block r (blk_lt RD.out.blk) HRB.out) (fun k hk => O2.out.block k (RD.out.own_lt k hk).2.1 (HOW.out k hk).2))
    clear hT2 hO2
    refine ⟨_, rfl, ?_⟩
    refine hK.out _ _ ⟨(blk_cell N2.out 0).trans rfl, (blk_cell N2.out 1).trans rfl, (blk_cell N2.out 2).trans rfl, (blk_cell N2.out 3).trans rfl, (blk_cell N2.out 4).trans rfl, (blk_cell N2.out 5).trans rfl, (blk_cell N2.out 6).trans rfl, (blk_cell N2.out 7).trans rfl, (blk_cell N2.out 8).trans rfl, (blk_cell N2.out 9).trans rfl⟩ (fun hHeld => ?_)
    clear hK K
    refine norm_ (a' := ?_) ?_ ?_
    rotate_left
    · show Act.put _ (some 18) _ = _
      simp only [Act.put, List.setIfInBounds_toArray, List.set_cons_zero, List.set_cons_succ, i64_w, i32_w]
      rfl
    refine one_ (i := 7) (N := some 22) #[true, true, true, true, true, true, true, true, false, false] rfl rfl (by kernel_rfl) (by decide) (fun K hK => ?_)
    refine goes_ Tryz.func11 (by kernel_rfl) rfl #[.pointer (some ⟨r, 0, none⟩), .agg #[.string bp, .string bn, .string bs, .int .i64 bv]] (by rfl) rfl rfl (by (try simp only [List.map_toArray, List.map_cons, List.map_nil]); first | done | rfl) ?_
    with_reducible refine (RSK.out wz R2.out (Nat.le_trans HBW.out (Nat.le_trans AD.out.size O2.out.size))).mono ?_
    rintro e wz ⟨rfl, v2, L2, hR3, hS3, hL3, hP3⟩
    have R3 := Aside0.mk hR3
    have S3 := Aside0.mk hS3
    have L3 := Aside0.mk hL3
    have P3 := Aside0.mk hP3
    have N3 := Aside0.mk ((P3.out.block pp (blk_lt N2.out) HPR.out (fun e => HPO.out pp e rfl)).trans N2.out)
    clear hR3 hS3 hL3 hP3
    refine ⟨_, rfl, ?_⟩
    refine hK.out _ _ ⟨(blk_cell N3.out 0).trans rfl, (blk_cell N3.out 1).trans rfl, (blk_cell N3.out 2).trans rfl, (blk_cell N3.out 3).trans rfl, (blk_cell N3.out 4).trans rfl, (blk_cell N3.out 5).trans rfl, (blk_cell N3.out 6).trans rfl, (blk_cell N3.out 7).trans rfl, (blk_cell N3.out 8).trans rfl, (blk_cell N3.out 9).trans rfl⟩ (fun hHeld => ?_)
    clear hK K
    refine norm_ (a' := ?_) ?_ ?_
    rotate_left
    · show Act.put _ (some 22) _ = _
      simp only [Act.put, List.setIfInBounds_toArray, List.set_cons_zero, List.set_cons_succ, i64_w, i32_w]
      rfl
    refine pure_ (i := 8) (N := some 23) (v := ?_) (a' := ?_) #[true, true, true, true, true, true, true, true, true, false] rfl rfl (by kernel_rfl) (fun _ _ _ h => h) (Or.inl ⟨by rfl, ?_⟩) ?_ ?_
    rotate_left
    · intro w'
      go_simp
      with_reducible rfl
    rotate_left
    · simp only [Act.put, List.setIfInBounds_toArray, List.set_cons_zero, List.set_cons_succ, i64_w, i32_w]
      rfl
    refine pure_ (i := 9) (N := some 6) (v := ?_) (a' := ?_) #[true, true, true, true, true, true, true, true, true, true] rfl rfl (by kernel_rfl) (fun _ _ _ h => h) (Or.inl ⟨by rfl, ?_⟩) ?_ ?_
    rotate_left
    · intro w'
      go_simp
      with_reducible rfl
    rotate_left
    · simp only [Act.put, List.setIfInBounds_toArray, List.set_cons_zero, List.set_cons_succ, i64_w, i32_w]
      rfl
    refine done_ (by kernel_rfl) ?_
    clear hHeld
    go_wp2
    go_ret
    refine ⟨by simp <;> rfl, ⟨⟨_, L2, v2, ?_, R3.out, S3.out, L3.out, PStep.both AD.out O2.out P3.out⟩⟩⟩
    exact T2.out.keep (P3.out.block t (blk_lt T2.out.at_) HTR.out (fun e => (HOW.out t e).1 rfl)) (P3.out.block b (Holds_lt T2.out.holds) (fun e => HRB.out e.symm) (fun e => (HOW.out b e).2 rfl))
  have e1 : (kd == 1) = false := beq_eq_false_iff_ne.2 c1
  by_cases c2 : kd = 2
  · have e2 : (kd == 2) = true := beq_iff_eq.2 c2
    go_upto_region 5 with fail
    clear hd0 hd1 hd2 hd3 hd4 hd5 hd6 hd7 hd8 hd9
    refine start_ (n := 14) (S := fun w' => w'.cell? ⟨pp, 0, none⟩ = some (.bool two) ∧ w'.cell? ⟨pp, 1, none⟩ = some (.int .i64 kd) ∧ w'.cell? ⟨pp, 2, none⟩ = some (.int .i64 vb) ∧ w'.cell? ⟨pp, 3, none⟩ = some (.string bp) ∧ w'.cell? ⟨pp, 4, none⟩ = some (.string bn) ∧ w'.cell? ⟨pp, 5, none⟩ = some (.string bs) ∧ w'.cell? ⟨pp, 6, none⟩ = some (.int .i64 bv) ∧ w'.cell? ⟨pp, 7, none⟩ = some (.string pa) ∧ w'.cell? ⟨pp, 8, none⟩ = some (.string na) ∧ w'.cell? ⟨pp, 9, none⟩ = some (.string su)) (ds := []) #[false, false, false, false, false, false, false, false, false, false, false, false, false, false] (by kernel_rfl) rfl rfl ⟨(blk_cell (blk_drew NW.out) 0).trans rfl, (blk_cell (blk_drew NW.out) 1).trans rfl, (blk_cell (blk_drew NW.out) 2).trans rfl, (blk_cell (blk_drew NW.out) 3).trans rfl, (blk_cell (blk_drew NW.out) 4).trans rfl, (blk_cell (blk_drew NW.out) 5).trans rfl, (blk_cell (blk_drew NW.out) 6).trans rfl, (blk_cell (blk_drew NW.out) 7).trans rfl, (blk_cell (blk_drew NW.out) 8).trans rfl, (blk_cell (blk_drew NW.out) 9).trans rfl⟩ (fun hHeld => ?_)
    have AD := Aside0.mk (below_drew1 AL.out)
    have ND := Aside0.mk (blk_drew NW.out)
    have TD := Aside0.mk (TL.out.below (below_drew (Below.refl _ _)))
    have RD := Aside0.mk (RL.out.below (below_drew (Below.refl _ _)))
    clear AL NW TL RL
    generalize w1.drew = wd at AD ND TD RD hHeld ⊢
    refine pure_ (i := 0) (N := some 26) (v := ?_) (a' := ?_) #[true, false, false, false, false, false, false, false, false, false, false, false, false, false] rfl rfl (by kernel_rfl) (fun _ _ _ h => h) (Or.inl ⟨by rfl, ?_⟩) ?_ ?_
    rotate_left
    · intro w'
      go_simp
      with_reducible rfl
    rotate_left
    · simp only [Act.put, List.setIfInBounds_toArray, List.set_cons_zero, List.set_cons_succ, i64_w, i32_w]
      rfl
    refine pure_ (i := 1) (N := some 27) (v := ?_) (a' := ?_) #[true, true, false, false, false, false, false, false, false, false, false, false, false, false] rfl rfl (by kernel_rfl) (fun _ _ _ h => h) (Or.inl ⟨by rfl, ?_⟩) ?_ ?_
    rotate_left
    · intro w'
      go_simp
      with_reducible rfl
    rotate_left
    · simp only [Act.put, List.setIfInBounds_toArray, List.set_cons_zero, List.set_cons_succ, i64_w, i32_w]
      rfl
    refine take_ (i := 2) (N := some 28) (v := ?_) (a' := ?_) #[true, true, true, false, false, false, false, false, false, false, false, false, false, false] rfl rfl (by kernel_rfl) (fun _ _ _ h => h) (Or.inl ⟨by rfl, ?_⟩) hHeld ?_ ?_
    rotate_left
    · rintro w' ⟨s0, s1, s2, s3, s4, s5, s6, s7, s8, s9⟩
      go_simp
      with_reducible rfl
    rotate_left
    · simp only [Act.put, List.setIfInBounds_toArray, List.set_cons_zero, List.set_cons_succ, i64_w, i32_w]
      rfl
    refine pure_ (i := 3) (N := some 29) (v := ?_) (a' := ?_) #[true, true, true, true, false, false, false, false, false, false, false, false, false, false] rfl rfl (by kernel_rfl) (fun _ _ _ h => h) (Or.inl ⟨by rfl, ?_⟩) ?_ ?_
    rotate_left
    · intro w'
      go_simp
      with_reducible rfl
    rotate_left
    · simp only [Act.put, List.setIfInBounds_toArray, List.set_cons_zero, List.set_cons_succ, i64_w, i32_w]
      rfl
    refine take_ (i := 4) (N := some 30) (v := ?_) (a' := ?_) #[true, true, true, true, true, false, false, false, false, false, false, false, false, false] rfl rfl (by kernel_rfl) (fun _ _ _ h => h) (Or.inl ⟨by rfl, ?_⟩) hHeld ?_ ?_
    rotate_left
    · rintro w' ⟨s0, s1, s2, s3, s4, s5, s6, s7, s8, s9⟩
      go_simp
      with_reducible rfl
    rotate_left
    · simp only [Act.put, List.setIfInBounds_toArray, List.set_cons_zero, List.set_cons_succ, i64_w, i32_w]
      rfl
    refine pure_ (i := 6) (N := some 32) (v := ?_) (a' := ?_) #[true, true, true, true, true, false, true, false, false, false, false, false, false, false] rfl rfl (by kernel_rfl) (fun _ _ _ h => h) (Or.inl ⟨by rfl, ?_⟩) ?_ ?_
    rotate_left
    · intro w'
      go_simp
      with_reducible rfl
    rotate_left
    · simp only [Act.put, List.setIfInBounds_toArray, List.set_cons_zero, List.set_cons_succ, i64_w, i32_w]
      rfl
    refine pure_ (i := 7) (N := some 33) (v := ?_) (a' := ?_) #[true, true, true, true, true, false, true, true, false, false, false, false, false, false] rfl rfl (by kernel_rfl) (fun _ _ _ h => h) (Or.inl ⟨by rfl, ?_⟩) ?_ ?_
    rotate_left
    · intro w'
      go_simp
      with_reducible rfl
    rotate_left
    · simp only [Act.put, List.setIfInBounds_toArray, List.set_cons_zero, List.set_cons_succ, i64_w, i32_w]
      rfl
    refine take_ (i := 8) (N := some 34) (v := ?_) (a' := ?_) #[true, true, true, true, true, false, true, true, true, false, false, false, false, false] rfl rfl (by kernel_rfl) (fun _ _ _ h => h) (Or.inl ⟨by rfl, ?_⟩) hHeld ?_ ?_
    rotate_left
    · rintro w' ⟨s0, s1, s2, s3, s4, s5, s6, s7, s8, s9⟩
      go_simp
      with_reducible rfl
    rotate_left
    · simp only [Act.put, List.setIfInBounds_toArray, List.set_cons_zero, List.set_cons_succ, i64_w, i32_w]
      rfl
    refine pure_ (i := 9) (N := some 35) (v := ?_) (a' := ?_) #[true, true, true, true, true, false, true, true, true, true, false, false, false, false] rfl rfl (by kernel_rfl) (fun _ _ _ h => h) (Or.inl ⟨by rfl, ?_⟩) ?_ ?_
    rotate_left
    · intro w'
      go_simp
      with_reducible rfl
    rotate_left
    · simp only [Act.put, List.setIfInBounds_toArray, List.set_cons_zero, List.set_cons_succ, i64_w, i32_w]
      rfl
    refine take_ (i := 10) (N := some 36) (v := ?_) (a' := ?_) #[true, true, true, true, true, false, true, true, true, true, true, false, false, false] rfl rfl (by kernel_rfl) (fun _ _ _ h => h) (Or.inl ⟨by rfl, ?_⟩) hHeld ?_ ?_
    rotate_left
    · rintro w' ⟨s0, s1, s2, s3, s4, s5, s6, s7, s8, s9⟩
      go_simp
      with_reducible rfl
    rotate_left
    · simp only [Act.put, List.setIfInBounds_toArray, List.set_cons_zero, List.set_cons_succ, i64_w, i32_w]
      rfl
    refine one_ (i := 5) (N := some 31) #[true, true, true, true, true, true, true, true, true, true, true, false, false, false] rfl rfl (by kernel_rfl) (by decide) (fun K hK => ?_)
    refine goes_ Tryz.func12 (by kernel_rfl) rfl #[.pointer (some ⟨t, 0, none⟩), .string pa, .string na] (by rfl) rfl rfl (by (try simp only [List.map_toArray, List.map_cons, List.map_nil]); first | done | rfl) ?_
    with_reducible refine (drop_ok wd t b M pa na TD.out (GL.out.below AD.out)).mono ?_
    rintro e wz ⟨rfl, hT2, hO2⟩
    have T2 := Aside0.mk hT2
    have O2 := Aside0.mk hO2
    have N2 := Aside0.mk ((O2.out.block pp (blk_lt ND.out) HPB.out).trans ND.out)
    have R2 := Aside0.mk (RD.out.keep (O2.out.block r (blk_lt RD.out.blk) HRB.out) (fun k hk => O2.out.block k (RD.out.own_lt k hk).2.1 (HOW.out k hk).2))
    clear hT2 hO2
    refine ⟨_, rfl, ?_⟩
    refine hK.out _ _ ⟨(blk_cell N2.out 0).trans rfl, (blk_cell N2.out 1).trans rfl, (blk_cell N2.out 2).trans rfl, (blk_cell N2.out 3).trans rfl, (blk_cell N2.out 4).trans rfl, (blk_cell N2.out 5).trans rfl, (blk_cell N2.out 6).trans rfl, (blk_cell N2.out 7).trans rfl, (blk_cell N2.out 8).trans rfl, (blk_cell N2.out 9).trans rfl⟩ (fun hHeld => ?_)
    clear hK K
    refine norm_ (a' := ?_) ?_ ?_
    rotate_left
    · show Act.put _ (some 31) _ = _
      simp only [Act.put, List.setIfInBounds_toArray, List.set_cons_zero, List.set_cons_succ, i64_w, i32_w]
      rfl
    refine one_ (i := 11) (N := some 37) #[true, true, true, true, true, true, true, true, true, true, true, true, false, false] rfl rfl (by kernel_rfl) (by decide) (fun K hK => ?_)
    refine goes_ Tryz.func13 (by kernel_rfl) rfl #[.pointer (some ⟨r, 0, none⟩), .string pa, .string na] (by rfl) rfl rfl (by (try simp only [List.map_toArray, List.map_cons, List.map_nil]); first | done | rfl) ?_
    with_reducible refine (rdrop_same wz r base v L pa na M R2.out HS.out (Nat.le_trans HBW.out (Nat.le_trans AD.out.size O2.out.size)) HPA.out HLL.out).mono ?_
    rintro e wz ⟨rfl, v2, L2, hR3, hS3, hL3, hP3⟩
    have R3 := Aside0.mk hR3
    have S3 := Aside0.mk hS3
    have L3 := Aside0.mk hL3
    have P3 := Aside0.mk hP3
    have N3 := Aside0.mk ((P3.out.block pp (blk_lt N2.out) HPR.out (fun e => HPO.out pp e rfl)).trans N2.out)
    clear hR3 hS3 hL3 hP3
    refine ⟨_, rfl, ?_⟩
    refine hK.out _ _ ⟨(blk_cell N3.out 0).trans rfl, (blk_cell N3.out 1).trans rfl, (blk_cell N3.out 2).trans rfl, (blk_cell N3.out 3).trans rfl, (blk_cell N3.out 4).trans rfl, (blk_cell N3.out 5).trans rfl, (blk_cell N3.out 6).trans rfl, (blk_cell N3.out 7).trans rfl, (blk_cell N3.out 8).trans rfl, (blk_cell N3.out 9).trans rfl⟩ (fun hHeld => ?_)
    clear hK K
    refine norm_ (a' := ?_) ?_ ?_
    rotate_left
    · show Act.put _ (some 37) _ = _
      simp only [Act.put, List.setIfInBounds_toArray, List.set_cons_zero, List.set_cons_succ, i64_w, i32_w]
      rfl
    refine pure_ (i := 12) (N := some 38) (v := ?_) (a' := ?_) #[true, true, true, true, true, true, true, true, true, true, true, true, true, false] rfl rfl (by kernel_rfl) (fun _ _ _ h => h) (Or.inl ⟨by rfl, ?_⟩) ?_ ?_
    rotate_left
    · intro w'
      go_simp
      with_reducible rfl
    rotate_left
    · simp only [Act.put, List.setIfInBounds_toArray, List.set_cons_zero, List.set_cons_succ, i64_w, i32_w]
      rfl
    refine pure_ (i := 13) (N := some 6) (v := ?_) (a' := ?_) #[true, true, true, true, true, true, true, true, true, true, true, true, true, true] rfl rfl (by kernel_rfl) (fun _ _ _ h => h) (Or.inl ⟨by rfl, ?_⟩) ?_ ?_
    rotate_left
    · intro w'
      go_simp
      with_reducible rfl
    rotate_left
    · simp only [Act.put, List.setIfInBounds_toArray, List.set_cons_zero, List.set_cons_succ, i64_w, i32_w]
      rfl
    refine done_ (by kernel_rfl) ?_
    clear hHeld
    go_wp2
    go_ret
    refine ⟨by simp <;> rfl, ⟨⟨_, L2, v2, ?_, R3.out, S3.out, L3.out, PStep.both AD.out O2.out P3.out⟩⟩⟩
    exact T2.out.keep (P3.out.block t (blk_lt T2.out.at_) HTR.out (fun e => (HOW.out t e).1 rfl)) (P3.out.block b (Holds_lt T2.out.holds) (fun e => HRB.out e.symm) (fun e => (HOW.out b e).2 rfl))
  have e2 : (kd == 2) = false := beq_eq_false_iff_ne.2 c2
  by_cases c3 : kd = 3
  · have e3 : (kd == 3) = true := beq_iff_eq.2 c3
    go_upto_region 7 with fail
    clear hd0 hd1 hd2 hd3 hd4 hd5 hd6 hd7 hd8 hd9
    refine start_ (n := 10) (S := fun w' => w'.cell? ⟨pp, 0, none⟩ = some (.bool two) ∧ w'.cell? ⟨pp, 1, none⟩ = some (.int .i64 kd) ∧ w'.cell? ⟨pp, 2, none⟩ = some (.int .i64 vb) ∧ w'.cell? ⟨pp, 3, none⟩ = some (.string bp) ∧ w'.cell? ⟨pp, 4, none⟩ = some (.string bn) ∧ w'.cell? ⟨pp, 5, none⟩ = some (.string bs) ∧ w'.cell? ⟨pp, 6, none⟩ = some (.int .i64 bv) ∧ w'.cell? ⟨pp, 7, none⟩ = some (.string pa) ∧ w'.cell? ⟨pp, 8, none⟩ = some (.string na) ∧ w'.cell? ⟨pp, 9, none⟩ = some (.string su)) (ds := []) #[false, false, false, false, false, false, false, false, false, false] (by kernel_rfl) rfl rfl ⟨(blk_cell (blk_drew NW.out) 0).trans rfl, (blk_cell (blk_drew NW.out) 1).trans rfl, (blk_cell (blk_drew NW.out) 2).trans rfl, (blk_cell (blk_drew NW.out) 3).trans rfl, (blk_cell (blk_drew NW.out) 4).trans rfl, (blk_cell (blk_drew NW.out) 5).trans rfl, (blk_cell (blk_drew NW.out) 6).trans rfl, (blk_cell (blk_drew NW.out) 7).trans rfl, (blk_cell (blk_drew NW.out) 8).trans rfl, (blk_cell (blk_drew NW.out) 9).trans rfl⟩ (fun hHeld => ?_)
    have AD := Aside0.mk (below_drew1 AL.out)
    have ND := Aside0.mk (blk_drew NW.out)
    have TD := Aside0.mk (TL.out.below (below_drew (Below.refl _ _)))
    have RD := Aside0.mk (RL.out.below (below_drew (Below.refl _ _)))
    clear AL NW TL RL
    generalize w1.drew = wd at AD ND TD RD hHeld ⊢
    refine pure_ (i := 0) (N := some 41) (v := ?_) (a' := ?_) #[true, false, false, false, false, false, false, false, false, false] rfl rfl (by kernel_rfl) (fun _ _ _ h => h) (Or.inl ⟨by rfl, ?_⟩) ?_ ?_
    rotate_left
    · intro w'
      go_simp
      with_reducible rfl
    rotate_left
    · simp only [Act.put, List.setIfInBounds_toArray, List.set_cons_zero, List.set_cons_succ, i64_w, i32_w]
      rfl
    refine pure_ (i := 1) (N := some 42) (v := ?_) (a' := ?_) #[true, true, false, false, false, false, false, false, false, false] rfl rfl (by kernel_rfl) (fun _ _ _ h => h) (Or.inl ⟨by rfl, ?_⟩) ?_ ?_
    rotate_left
    · intro w'
      go_simp
      with_reducible rfl
    rotate_left
    · simp only [Act.put, List.setIfInBounds_toArray, List.set_cons_zero, List.set_cons_succ, i64_w, i32_w]
      rfl
    refine take_ (i := 2) (N := some 43) (v := ?_) (a' := ?_) #[true, true, true, false, false, false, false, false, false, false] rfl rfl (by kernel_rfl) (fun _ _ _ h => h) (Or.inl ⟨by rfl, ?_⟩) hHeld ?_ ?_
    rotate_left
    · rintro w' ⟨s0, s1, s2, s3, s4, s5, s6, s7, s8, s9⟩
      go_simp
      with_reducible rfl
    rotate_left
    · simp only [Act.put, List.setIfInBounds_toArray, List.set_cons_zero, List.set_cons_succ, i64_w, i32_w]
      rfl
    refine pure_ (i := 4) (N := some 45) (v := ?_) (a' := ?_) #[true, true, true, false, true, false, false, false, false, false] rfl rfl (by kernel_rfl) (fun _ _ _ h => h) (Or.inl ⟨by rfl, ?_⟩) ?_ ?_
    rotate_left
    · intro w'
      go_simp
      with_reducible rfl
    rotate_left
    · simp only [Act.put, List.setIfInBounds_toArray, List.set_cons_zero, List.set_cons_succ, i64_w, i32_w]
      rfl
    refine pure_ (i := 5) (N := some 46) (v := ?_) (a' := ?_) #[true, true, true, false, true, true, false, false, false, false] rfl rfl (by kernel_rfl) (fun _ _ _ h => h) (Or.inl ⟨by rfl, ?_⟩) ?_ ?_
    rotate_left
    · intro w'
      go_simp
      with_reducible rfl
    rotate_left
    · simp only [Act.put, List.setIfInBounds_toArray, List.set_cons_zero, List.set_cons_succ, i64_w, i32_w]
      rfl
    refine take_ (i := 6) (N := some 47) (v := ?_) (a' := ?_) #[true, true, true, false, true, true, true, false, false, false] rfl rfl (by kernel_rfl) (fun _ _ _ h => h) (Or.inl ⟨by rfl, ?_⟩) hHeld ?_ ?_
    rotate_left
    · rintro w' ⟨s0, s1, s2, s3, s4, s5, s6, s7, s8, s9⟩
      go_simp
      with_reducible rfl
    rotate_left
    · simp only [Act.put, List.setIfInBounds_toArray, List.set_cons_zero, List.set_cons_succ, i64_w, i32_w]
      rfl
    refine one_ (i := 3) (N := some 44) #[true, true, true, true, true, true, true, false, false, false] rfl rfl (by kernel_rfl) (by decide) (fun K hK => ?_)
    refine goes_ Tryz.func14 (by kernel_rfl) rfl #[.pointer (some ⟨t, 0, none⟩), .string pa] (by rfl) rfl rfl (by (try simp only [List.map_toArray, List.map_cons, List.map_nil]); first | done | rfl) ?_
    with_reducible refine (leave_ok wd t b M pa TD.out HM.out).mono ?_
    rintro e wz ⟨rfl, hT2, hO2⟩
    have T2 := Aside0.mk hT2
    have O2 := Aside0.mk hO2
    have N2 := Aside0.mk ((O2.out.block pp (blk_lt ND.out) HPB.out).trans ND.out)
    have R2 := Aside0.mk (RD.out.keep (O2.out.block r (blk_lt RD.out.blk) HRB.out) (fun k hk => O2.out.block k (RD.out.own_lt k hk).2.1 (HOW.out k hk).2))
    clear hT2 hO2
    refine ⟨_, rfl, ?_⟩
    refine hK.out _ _ ⟨(blk_cell N2.out 0).trans rfl, (blk_cell N2.out 1).trans rfl, (blk_cell N2.out 2).trans rfl, (blk_cell N2.out 3).trans rfl, (blk_cell N2.out 4).trans rfl, (blk_cell N2.out 5).trans rfl, (blk_cell N2.out 6).trans rfl, (blk_cell N2.out 7).trans rfl, (blk_cell N2.out 8).trans rfl, (blk_cell N2.out 9).trans rfl⟩ (fun hHeld => ?_)
    clear hK K
    refine norm_ (a' := ?_) ?_ ?_
    rotate_left
    · show Act.put _ (some 44) _ = _
      simp only [Act.put, List.setIfInBounds_toArray, List.set_cons_zero, List.set_cons_succ, i64_w, i32_w]
      rfl
    refine one_ (i := 7) (N := some 48) #[true, true, true, true, true, true, true, true, false, false] rfl rfl (by kernel_rfl) (by decide) (fun K hK => ?_)
    refine goes_ Tryz.func15 (by kernel_rfl) rfl #[.pointer (some ⟨r, 0, none⟩), .string pa] (by rfl) rfl rfl (by (try simp only [List.map_toArray, List.map_cons, List.map_nil]); first | done | rfl) ?_
    with_reducible refine (rleave_same wz r base v L pa M R2.out HS.out (Nat.le_trans HBW.out (Nat.le_trans AD.out.size O2.out.size)) HLL.out).mono ?_
    rintro e wz ⟨rfl, v2, L2, hR3, hS3, hL3, hP3⟩
    have R3 := Aside0.mk hR3
    have S3 := Aside0.mk hS3
    have L3 := Aside0.mk hL3
    have P3 := Aside0.mk hP3
    have N3 := Aside0.mk ((P3.out.block pp (blk_lt N2.out) HPR.out (fun e => HPO.out pp e rfl)).trans N2.out)
    clear hR3 hS3 hL3 hP3
    refine ⟨_, rfl, ?_⟩
    refine hK.out _ _ ⟨(blk_cell N3.out 0).trans rfl, (blk_cell N3.out 1).trans rfl, (blk_cell N3.out 2).trans rfl, (blk_cell N3.out 3).trans rfl, (blk_cell N3.out 4).trans rfl, (blk_cell N3.out 5).trans rfl, (blk_cell N3.out 6).trans rfl, (blk_cell N3.out 7).trans rfl, (blk_cell N3.out 8).trans rfl, (blk_cell N3.out 9).trans rfl⟩ (fun hHeld => ?_)
    clear hK K
    refine norm_ (a' := ?_) ?_ ?_
    rotate_left
    · show Act.put _ (some 48) _ = _
      simp only [Act.put, List.setIfInBounds_toArray, List.set_cons_zero, List.set_cons_succ, i64_w, i32_w]
      rfl
    refine pure_ (i := 8) (N := some 49) (v := ?_) (a' := ?_) #[true, true, true, true, true, true, true, true, true, false] rfl rfl (by kernel_rfl) (fun _ _ _ h => h) (Or.inl ⟨by rfl, ?_⟩) ?_ ?_
    rotate_left
    · intro w'
      go_simp
      with_reducible rfl
    rotate_left
    · simp only [Act.put, List.setIfInBounds_toArray, List.set_cons_zero, List.set_cons_succ, i64_w, i32_w]
      rfl
    refine pure_ (i := 9) (N := some 6) (v := ?_) (a' := ?_) #[true, true, true, true, true, true, true, true, true, true] rfl rfl (by kernel_rfl) (fun _ _ _ h => h) (Or.inl ⟨by rfl, ?_⟩) ?_ ?_
    rotate_left
    · intro w'
      go_simp
      with_reducible rfl
    rotate_left
    · simp only [Act.put, List.setIfInBounds_toArray, List.set_cons_zero, List.set_cons_succ, i64_w, i32_w]
      rfl
    refine done_ (by kernel_rfl) ?_
    clear hHeld
    go_wp2
    go_ret
    refine ⟨by simp <;> rfl, ⟨⟨_, L2, v2, ?_, R3.out, S3.out, L3.out, PStep.both AD.out O2.out P3.out⟩⟩⟩
    exact T2.out.keep (P3.out.block t (blk_lt T2.out.at_) HTR.out (fun e => (HOW.out t e).1 rfl)) (P3.out.block b (Holds_lt T2.out.holds) (fun e => HRB.out e.symm) (fun e => (HOW.out b e).2 rfl))
  have e3 : (kd == 3) = false := beq_eq_false_iff_ne.2 c3
  by_cases c4 : kd = 4
  · have e4 : (kd == 4) = true := beq_iff_eq.2 c4
    have WK := Lib.hid (why_ok w1 t b M su vb pa TL.out (GL.out.below AL.out))
    go_upto_region 10 with (go_at_call 16; refine WK.out.mono ?_; rintro e w2 ⟨⟨⟨cp, cn, cs, cv⟩, fd, rfl, hw⟩, hb⟩; have HW := Lib.hid hw; have A2 := Aside0.mk (AL.out.trans (below_lower hb AL.out.size)); have N2 := Aside0.mk (blk_below NW.out hb); have T2 := Aside0.mk (TL.out.below hb); have R2 := Aside0.mk (RL.out.below hb); clear hw hb; unfold eV)
    clear WK AL NW TL RL hd0 hd1 hd2 hd3 hd4 hd5 hd6 hd7 hd8 hd9
    have hal2 := (Below.refl w2.heap.size w2).alloc (Nat.le_refl _) (.cells #[.string cp, .string cn, .string cs, .int .i64 cv] 28)
    have A3 := Aside0.mk (A2.out.trans (below_lower hal2 A2.out.size))
    have N3 := Aside0.mk (blk_below N2.out hal2)
    have T3 := Aside0.mk (T2.out.below hal2)
    have R3 := Aside0.mk (R2.out.below hal2)
    have E3 := Aside0.mk (blk_new w2 (.cells #[.string cp, .string cn, .string cs, .int .i64 cv] 28))
    obtain ⟨b7, hb7⟩ : ∃ b7, b7 = w2.heap.size := ⟨_, rfl⟩
    rw [← hb7] at E3 ⊢
    clear hb7 hal2 A2 N2 T2 R2
    generalize w2.alloc _ = w3 at A3 N3 T3 R3 E3 ⊢
    have hd0 := (blk_cell N3.out 0).trans rfl
    have hd1 := (blk_cell N3.out 1).trans rfl
    have hd2 := (blk_cell N3.out 2).trans rfl
    have hd3 := (blk_cell N3.out 3).trans rfl
    have hd4 := (blk_cell N3.out 4).trans rfl
    have hd5 := (blk_cell N3.out 5).trans rfl
    have hd6 := (blk_cell N3.out 6).trans rfl
    have hd7 := (blk_cell N3.out 7).trans rfl
    have hd8 := (blk_cell N3.out 8).trans rfl
    have hd9 := (blk_cell N3.out 9).trans rfl
    have RWK := Lib.hid (rwhy_ok w3 r base v L su vb pa R3.out HLL.out HPA.out (fun x hx => by have := path_size (formed_path (HS.out.formed x hx)); omega))
    go_upto_region 11 with (go_at_call 17; refine RWK.out.mono ?_; rintro e w5 ⟨⟨o, ho, rfl⟩, hb⟩; obtain ⟨hfd, hc⟩ := why_same HS.out HW.out ho; rw [← hc, ← hfd]; have A5 := Aside0.mk (A3.out.trans (below_lower hb A3.out.size)); have N5 := Aside0.mk (blk_below N3.out hb); have T5 := Aside0.mk (T3.out.below hb); have R5 := Aside0.mk (R3.out.below hb); have E5 := Aside0.mk (blk_below E3.out hb); clear ho hfd hc hb; unfold eV)
    clear RWK A3 N3 T3 R3 E3 HW hd0 hd1 hd2 hd3 hd4 hd5 hd6 hd7 hd8 hd9
    have hal2 := (Below.refl w5.heap.size w5).alloc (Nat.le_refl _) (.cells #[.string cp, .string cn, .string cs, .int .i64 cv] 28)
    have AL := Aside0.mk (A5.out.trans (below_lower hal2 A5.out.size))
    have NW := Aside0.mk (blk_below N5.out hal2)
    have TL := Aside0.mk (T5.out.below hal2)
    have RL := Aside0.mk (R5.out.below hal2)
    have E7 := Aside0.mk (blk_below E5.out hal2)
    have E9 := Aside0.mk (blk_new w5 (.cells #[.string cp, .string cn, .string cs, .int .i64 cv] 28))
    obtain ⟨b9, hb9⟩ : ∃ b9, b9 = w5.heap.size := ⟨_, rfl⟩
    rw [← hb9] at E9 ⊢
    clear hb9 hal2 A5 N5 T5 R5 E5
    generalize w5.alloc _ = w4 at AL NW TL RL E7 E9 ⊢
    refine start_ (n := 28) (S := fun w' => w'.cell? ⟨pp, 0, none⟩ = some (.bool two) ∧ w'.cell? ⟨pp, 1, none⟩ = some (.int .i64 kd) ∧ w'.cell? ⟨pp, 2, none⟩ = some (.int .i64 vb) ∧ w'.cell? ⟨pp, 3, none⟩ = some (.string bp) ∧ w'.cell? ⟨pp, 4, none⟩ = some (.string bn) ∧ w'.cell? ⟨pp, 5, none⟩ = some (.string bs) ∧ w'.cell? ⟨pp, 6, none⟩ = some (.int .i64 bv) ∧ w'.cell? ⟨pp, 7, none⟩ = some (.string pa) ∧ w'.cell? ⟨pp, 8, none⟩ = some (.string na) ∧ w'.cell? ⟨pp, 9, none⟩ = some (.string su) ∧ w'.cell? ⟨b7, 0, none⟩ = some (.string cp) ∧ w'.cell? ⟨b7, 1, none⟩ = some (.string cn) ∧ w'.cell? ⟨b7, 2, none⟩ = some (.string cs) ∧ w'.cell? ⟨b7, 3, none⟩ = some (.int .i64 cv) ∧ w'.cell? ⟨b9, 0, none⟩ = some (.string cp) ∧ w'.cell? ⟨b9, 1, none⟩ = some (.string cn) ∧ w'.cell? ⟨b9, 2, none⟩ = some (.string cs) ∧ w'.cell? ⟨b9, 3, none⟩ = some (.int .i64 cv)) (ds := []) #[false, false, false, false, false, false, false, false, false, false, false, false, false, false, false, false, false, false, false, false, false, false, false, false, false, false, false, false] (by kernel_rfl) rfl rfl ⟨(blk_cell (blk_drew NW.out) 0).trans rfl, (blk_cell (blk_drew NW.out) 1).trans rfl, (blk_cell (blk_drew NW.out) 2).trans rfl, (blk_cell (blk_drew NW.out) 3).trans rfl, (blk_cell (blk_drew NW.out) 4).trans rfl, (blk_cell (blk_drew NW.out) 5).trans rfl, (blk_cell (blk_drew NW.out) 6).trans rfl, (blk_cell (blk_drew NW.out) 7).trans rfl, (blk_cell (blk_drew NW.out) 8).trans rfl, (blk_cell (blk_drew NW.out) 9).trans rfl, (blk_cell (blk_drew E7.out) 0).trans rfl, (blk_cell (blk_drew E7.out) 1).trans rfl, (blk_cell (blk_drew E7.out) 2).trans rfl, (blk_cell (blk_drew E7.out) 3).trans rfl, (blk_cell (blk_drew E9.out) 0).trans rfl, (blk_cell (blk_drew E9.out) 1).trans rfl, (blk_cell (blk_drew E9.out) 2).trans rfl, (blk_cell (blk_drew E9.out) 3).trans rfl⟩ (fun hHeld => ?_)
    have hb := below_drew (Below.refl w4.heap.size w4)
    have TD := TL
    have RD := RL
    have ND := NW
    have AD := AL
    clear TL RL NW AL
    have TDb := Aside0.mk (TD.out.below hb)
    have RDb := Aside0.mk (RD.out.below hb)
    have NDb := Aside0.mk (blk_below ND.out hb)
    have ADb := Aside0.mk (AD.out.trans (below_lower hb AD.out.size))
    have E7b := Aside0.mk (blk_below E7.out hb)
    have E9b := Aside0.mk (blk_below E9.out hb)
    clear TD RD ND AD E7 E9
    have E7 := E7b
    have E9 := E9b
    clear E7b E9b
    have TD := TDb
    have RD := RDb
    have ND := NDb
    have AD := ADb
    clear TDb RDb NDb ADb
    clear hb
    generalize w4.drew = wd at AD ND TD RD E7 E9 hHeld ⊢
    refine take_ (i := 0) (N := some 74) (v := ?_) (a' := ?_) #[true, false, false, false, false, false, false, false, false, false, false, false, false, false, false, false, false, false, false, false, false, false, false, false, false, false, false, false] rfl rfl (by kernel_rfl) (fun _ _ _ h => h) (Or.inl ⟨by rfl, ?_⟩) hHeld ?_ ?_
    rotate_left
    · rintro w' ⟨s0, s1, s2, s3, s4, s5, s6, s7, s8, s9, s10, s11, s12, s13, s14, s15, s16, s17⟩
      go_simp
      with_reducible rfl
    rotate_left
    · simp only [Act.put, List.setIfInBounds_toArray, List.set_cons_zero, List.set_cons_succ, i64_w, i32_w]
      rfl
    refine take_ (i := 1) (N := some 75) (v := ?_) (a' := ?_) #[true, true, false, false, false, false, false, false, false, false, false, false, false, false, false, false, false, false, false, false, false, false, false, false, false, false, false, false] rfl rfl (by kernel_rfl) (fun _ _ _ h => h) (Or.inl ⟨by rfl, ?_⟩) hHeld ?_ ?_
    rotate_left
    · rintro w' ⟨s0, s1, s2, s3, s4, s5, s6, s7, s8, s9, s10, s11, s12, s13, s14, s15, s16, s17⟩
      go_simp
      with_reducible rfl
    rotate_left
    · simp only [Act.put, List.setIfInBounds_toArray, List.set_cons_zero, List.set_cons_succ, i64_w, i32_w]
      rfl
    refine pure_ (i := 2) (N := some 76) (v := ?_) (a' := ?_) #[true, true, true, false, false, false, false, false, false, false, false, false, false, false, false, false, false, false, false, false, false, false, false, false, false, false, false, false] rfl rfl (by kernel_rfl) (fun _ _ _ h => h) (Or.inl ⟨by rfl, ?_⟩) ?_ ?_
    rotate_left
    · intro w'
      go_simp
      with_reducible rfl
    rotate_left
    · simp only [Act.put, List.setIfInBounds_toArray, List.set_cons_zero, List.set_cons_succ, i64_w, i32_w]
      rfl
    refine pure_ (i := 3) (N := some 77) (v := ?_) (a' := ?_) #[true, true, true, true, false, false, false, false, false, false, false, false, false, false, false, false, false, false, false, false, false, false, false, false, false, false, false, false] rfl rfl (by kernel_rfl) (fun _ _ _ h => h) (Or.inl ⟨by rfl, ?_⟩) ?_ ?_
    rotate_left
    · intro w'
      go_simp
      with_reducible rfl
    rotate_left
    · simp only [Act.put, List.setIfInBounds_toArray, List.set_cons_zero, List.set_cons_succ, i64_w, i32_w]
      rfl
    refine pure_ (i := 4) (N := some 78) (v := ?_) (a' := ?_) #[true, true, true, true, true, false, false, false, false, false, false, false, false, false, false, false, false, false, false, false, false, false, false, false, false, false, false, false] rfl rfl (by kernel_rfl) (fun _ _ _ h => h) (Or.inl ⟨by rfl, ?_⟩) ?_ ?_
    rotate_left
    · intro w'
      go_simp
      with_reducible rfl
    rotate_left
    · simp only [Act.put, List.setIfInBounds_toArray, List.set_cons_zero, List.set_cons_succ, i64_w, i32_w]
      rfl
    refine pure_ (i := 5) (N := some 79) (v := ?_) (a' := ?_) #[true, true, true, true, true, true, false, false, false, false, false, false, false, false, false, false, false, false, false, false, false, false, false, false, false, false, false, false] rfl rfl (by kernel_rfl) (fun _ _ _ h => h) (Or.inl ⟨by rfl, ?_⟩) ?_ ?_
    rotate_left
    · intro w'
      go_simp
      with_reducible rfl
    rotate_left
    · simp only [Act.put, List.setIfInBounds_toArray, List.set_cons_zero, List.set_cons_succ, i64_w, i32_w]
      rfl
    refine pure_ (i := 6) (N := some 80) (v := ?_) (a' := ?_) #[true, true, true, true, true, true, true, false, false, false, false, false, false, false, false, false, false, false, false, false, false, false, false, false, false, false, false, false] rfl rfl (by kernel_rfl) (fun _ _ _ h => h) (Or.inl ⟨by rfl, ?_⟩) ?_ ?_
    rotate_left
    · intro w'
      go_simp
      with_reducible rfl
    rotate_left
    · simp only [Act.put, List.setIfInBounds_toArray, List.set_cons_zero, List.set_cons_succ, i64_w, i32_w]
      rfl
    refine pure_ (i := 7) (N := some 81) (v := ?_) (a' := ?_) #[true, true, true, true, true, true, true, true, false, false, false, false, false, false, false, false, false, false, false, false, false, false, false, false, false, false, false, false] rfl rfl (by kernel_rfl) (fun _ _ _ h => h) (Or.inl ⟨by rfl, ?_⟩) ?_ ?_
    rotate_left
    · intro w'
      go_simp
      with_reducible rfl
    rotate_left
    · simp only [Act.put, List.setIfInBounds_toArray, List.set_cons_zero, List.set_cons_succ, i64_w, i32_w]
      rfl
    refine pure_ (i := 8) (N := some 82) (v := ?_) (a' := ?_) #[true, true, true, true, true, true, true, true, true, false, false, false, false, false, false, false, false, false, false, false, false, false, false, false, false, false, false, false] rfl rfl (by kernel_rfl) (fun _ _ _ h => h) (Or.inl ⟨by rfl, ?_⟩) ?_ ?_
    rotate_left
    · intro w'
      go_simp
      with_reducible rfl
    rotate_left
    · simp only [Act.put, List.setIfInBounds_toArray, List.set_cons_zero, List.set_cons_succ, i64_w, i32_w]
      rfl
    refine pure_ (i := 9) (N := some 83) (v := ?_) (a' := ?_) #[true, true, true, true, true, true, true, true, true, true, false, false, false, false, false, false, false, false, false, false, false, false, false, false, false, false, false, false] rfl rfl (by kernel_rfl) (fun _ _ _ h => h) (Or.inl ⟨by rfl, ?_⟩) ?_ ?_
    rotate_left
    · intro w'
      go_simp
      with_reducible rfl
    rotate_left
    · simp only [Act.put, List.setIfInBounds_toArray, List.set_cons_zero, List.set_cons_succ, i64_w, i32_w]
      rfl
    refine pure_ (i := 10) (N := some 84) (v := ?_) (a' := ?_) #[true, true, true, true, true, true, true, true, true, true, true, false, false, false, false, false, false, false, false, false, false, false, false, false, false, false, false, false] rfl rfl (by kernel_rfl) (fun _ _ _ h => h) (Or.inl ⟨by rfl, ?_⟩) ?_ ?_
    rotate_left
    · intro w'
      go_simp
      with_reducible rfl
    rotate_left
    · simp only [Act.put, List.setIfInBounds_toArray, List.set_cons_zero, List.set_cons_succ, i64_w, i32_w]
      rfl
    refine take_ (i := 11) (N := some 85) (v := ?_) (a' := ?_) #[true, true, true, true, true, true, true, true, true, true, true, true, false, false, false, false, false, false, false, false, false, false, false, false, false, false, false, false] rfl rfl (by kernel_rfl) (fun _ _ _ h => h) (Or.inl ⟨by rfl, ?_⟩) hHeld ?_ ?_
    rotate_left
    · rintro w' ⟨s0, s1, s2, s3, s4, s5, s6, s7, s8, s9, s10, s11, s12, s13, s14, s15, s16, s17⟩
      go_simp
      with_reducible rfl
    rotate_left
    · simp only [Act.put, List.setIfInBounds_toArray, List.set_cons_zero, List.set_cons_succ, i64_w, i32_w]
      rfl
    refine pure_ (i := 12) (N := some 86) (v := ?_) (a' := ?_) #[true, true, true, true, true, true, true, true, true, true, true, true, true, false, false, false, false, false, false, false, false, false, false, false, false, false, false, false] rfl rfl (by kernel_rfl) (fun _ _ _ h => h) (Or.inl ⟨by rfl, ?_⟩) ?_ ?_
    rotate_left
    · intro w'
      go_simp
      with_reducible rfl
    rotate_left
    · simp only [Act.put, List.setIfInBounds_toArray, List.set_cons_zero, List.set_cons_succ, i64_w, i32_w]
      rfl
    refine take_ (i := 13) (N := some 87) (v := ?_) (a' := ?_) #[true, true, true, true, true, true, true, true, true, true, true, true, true, true, false, false, false, false, false, false, false, false, false, false, false, false, false, false] rfl rfl (by kernel_rfl) (fun _ _ _ h => h) (Or.inl ⟨by rfl, ?_⟩) hHeld ?_ ?_
    rotate_left
    · rintro w' ⟨s0, s1, s2, s3, s4, s5, s6, s7, s8, s9, s10, s11, s12, s13, s14, s15, s16, s17⟩
      go_simp
      with_reducible rfl
    rotate_left
    · simp only [Act.put, List.setIfInBounds_toArray, List.set_cons_zero, List.set_cons_succ, i64_w, i32_w]
      rfl
    refine pure_ (i := 14) (N := some 88) (v := ?_) (a' := ?_) #[true, true, true, true, true, true, true, true, true, true, true, true, true, true, true, false, false, false, false, false, false, false, false, false, false, false, false, false] rfl rfl (by kernel_rfl) (fun _ _ _ h => h) (Or.inl ⟨by rfl, ?_⟩) ?_ ?_
    rotate_left
    · intro w'
      go_simp
      with_reducible rfl
    rotate_left
    · simp only [Act.put, List.setIfInBounds_toArray, List.set_cons_zero, List.set_cons_succ, i64_w, i32_w]
      rfl
    refine take_ (i := 15) (N := some 89) (v := ?_) (a' := ?_) #[true, true, true, true, true, true, true, true, true, true, true, true, true, true, true, true, false, false, false, false, false, false, false, false, false, false, false, false] rfl rfl (by kernel_rfl) (fun _ _ _ h => h) (Or.inl ⟨by rfl, ?_⟩) hHeld ?_ ?_
    rotate_left
    · rintro w' ⟨s0, s1, s2, s3, s4, s5, s6, s7, s8, s9, s10, s11, s12, s13, s14, s15, s16, s17⟩
      go_simp
      with_reducible rfl
    rotate_left
    · simp only [Act.put, List.setIfInBounds_toArray, List.set_cons_zero, List.set_cons_succ, i64_w, i32_w]
      rfl
    refine pure_ (i := 17) (N := some 91) (v := ?_) (a' := ?_) #[true, true, true, true, true, true, true, true, true, true, true, true, true, true, true, true, false, true, false, false, false, false, false, false, false, false, false, false] rfl rfl (by kernel_rfl) (fun _ _ _ h => h) (Or.inl ⟨by rfl, ?_⟩) ?_ ?_
    rotate_left
    · intro w'
      go_simp
      with_reducible rfl
    rotate_left
    · simp only [Act.put, List.setIfInBounds_toArray, List.set_cons_zero, List.set_cons_succ, i64_w, i32_w]
      rfl
    refine pure_ (i := 18) (N := some 92) (v := ?_) (a' := ?_) #[true, true, true, true, true, true, true, true, true, true, true, true, true, true, true, true, false, true, true, false, false, false, false, false, false, false, false, false] rfl rfl (by kernel_rfl) (fun _ _ _ h => h) (Or.inl ⟨by rfl, ?_⟩) ?_ ?_
    rotate_left
    · intro w'
      go_simp
      with_reducible rfl
    rotate_left
    · simp only [Act.put, List.setIfInBounds_toArray, List.set_cons_zero, List.set_cons_succ, i64_w, i32_w]
      rfl
    refine take_ (i := 19) (N := some 93) (v := ?_) (a' := ?_) #[true, true, true, true, true, true, true, true, true, true, true, true, true, true, true, true, false, true, true, true, false, false, false, false, false, false, false, false] rfl rfl (by kernel_rfl) (fun _ _ _ h => h) (Or.inl ⟨by rfl, ?_⟩) hHeld ?_ ?_
    rotate_left
    · rintro w' ⟨s0, s1, s2, s3, s4, s5, s6, s7, s8, s9, s10, s11, s12, s13, s14, s15, s16, s17⟩
      go_simp
      with_reducible rfl
    rotate_left
    · simp only [Act.put, List.setIfInBounds_toArray, List.set_cons_zero, List.set_cons_succ, i64_w, i32_w]
      rfl
    refine pure_ (i := 20) (N := some 94) (v := ?_) (a' := ?_) #[true, true, true, true, true, true, true, true, true, true, true, true, true, true, true, true, false, true, true, true, true, false, false, false, false, false, false, false] rfl rfl (by kernel_rfl) (fun _ _ _ h => h) (Or.inl ⟨by rfl, ?_⟩) ?_ ?_
    rotate_left
    · intro w'
      go_simp
      with_reducible rfl
    rotate_left
    · simp only [Act.put, List.setIfInBounds_toArray, List.set_cons_zero, List.set_cons_succ, i64_w, i32_w]
      rfl
    refine take_ (i := 21) (N := some 95) (v := ?_) (a' := ?_) #[true, true, true, true, true, true, true, true, true, true, true, true, true, true, true, true, false, true, true, true, true, true, false, false, false, false, false, false] rfl rfl (by kernel_rfl) (fun _ _ _ h => h) (Or.inl ⟨by rfl, ?_⟩) hHeld ?_ ?_
    rotate_left
    · rintro w' ⟨s0, s1, s2, s3, s4, s5, s6, s7, s8, s9, s10, s11, s12, s13, s14, s15, s16, s17⟩
      go_simp
      with_reducible rfl
    rotate_left
    · simp only [Act.put, List.setIfInBounds_toArray, List.set_cons_zero, List.set_cons_succ, i64_w, i32_w]
      rfl
    refine pure_ (i := 22) (N := some 96) (v := ?_) (a' := ?_) #[true, true, true, true, true, true, true, true, true, true, true, true, true, true, true, true, false, true, true, true, true, true, true, false, false, false, false, false] rfl rfl (by kernel_rfl) (fun _ _ _ h => h) (Or.inl ⟨by rfl, ?_⟩) ?_ ?_
    rotate_left
    · intro w'
      go_simp
      with_reducible rfl
    rotate_left
    · simp only [Act.put, List.setIfInBounds_toArray, List.set_cons_zero, List.set_cons_succ, i64_w, i32_w]
      rfl
    refine take_ (i := 23) (N := some 97) (v := ?_) (a' := ?_) #[true, true, true, true, true, true, true, true, true, true, true, true, true, true, true, true, false, true, true, true, true, true, true, true, false, false, false, false] rfl rfl (by kernel_rfl) (fun _ _ _ h => h) (Or.inl ⟨by rfl, ?_⟩) hHeld ?_ ?_
    rotate_left
    · rintro w' ⟨s0, s1, s2, s3, s4, s5, s6, s7, s8, s9, s10, s11, s12, s13, s14, s15, s16, s17⟩
      go_simp
      with_reducible rfl
    rotate_left
    · simp only [Act.put, List.setIfInBounds_toArray, List.set_cons_zero, List.set_cons_succ, i64_w, i32_w]
      rfl
    refine one_ (i := 16) (N := some 90) #[true, true, true, true, true, true, true, true, true, true, true, true, true, true, true, true, true, true, true, true, true, true, true, true, false, false, false, false] rfl rfl (by kernel_rfl) (by decide) (fun K hK => ?_)
    refine goes_ Tryz.func18 (by kernel_rfl) rfl #[.pointer (some ⟨t, 0, none⟩), .string su, .int .i64 vb, .string pa] (by rfl) rfl rfl (by (try simp only [List.map_toArray, List.map_cons, List.map_nil]); first | done | rfl) ?_
    with_reducible refine (may_ok wd t b M su vb pa TD.out (GL.out.below AD.out)).mono ?_
    rintro e wz ⟨rfl, hb⟩
    have TDb := Aside0.mk (TD.out.below hb)
    have RDb := Aside0.mk (RD.out.below hb)
    have NDb := Aside0.mk (blk_below ND.out hb)
    have ADb := Aside0.mk (AD.out.trans (below_lower hb AD.out.size))
    have E7b := Aside0.mk (blk_below E7.out hb)
    have E9b := Aside0.mk (blk_below E9.out hb)
    clear TD RD ND AD E7 E9
    have E7 := E7b
    have E9 := E9b
    clear E7b E9b
    have TD := TDb
    have RD := RDb
    have ND := NDb
    have AD := ADb
    clear TDb RDb NDb ADb
    clear hb
    refine ⟨_, rfl, ?_⟩
    refine hK.out _ _ ⟨(blk_cell ND.out 0).trans rfl, (blk_cell ND.out 1).trans rfl, (blk_cell ND.out 2).trans rfl, (blk_cell ND.out 3).trans rfl, (blk_cell ND.out 4).trans rfl, (blk_cell ND.out 5).trans rfl, (blk_cell ND.out 6).trans rfl, (blk_cell ND.out 7).trans rfl, (blk_cell ND.out 8).trans rfl, (blk_cell ND.out 9).trans rfl, (blk_cell E7.out 0).trans rfl, (blk_cell E7.out 1).trans rfl, (blk_cell E7.out 2).trans rfl, (blk_cell E7.out 3).trans rfl, (blk_cell E9.out 0).trans rfl, (blk_cell E9.out 1).trans rfl, (blk_cell E9.out 2).trans rfl, (blk_cell E9.out 3).trans rfl⟩ (fun hHeld => ?_)
    clear hK K
    refine norm_ (a' := ?_) ?_ ?_
    rotate_left
    · show Act.put _ (some 90) _ = _
      simp only [Act.put, List.setIfInBounds_toArray, List.set_cons_zero, List.set_cons_succ, i64_w, i32_w]
      rfl
    refine one_ (i := 24) (N := some 98) #[true, true, true, true, true, true, true, true, true, true, true, true, true, true, true, true, true, true, true, true, true, true, true, true, true, false, false, false] rfl rfl (by kernel_rfl) (by decide) (fun K hK => ?_)
    refine goes_ Tryz.func19 (by kernel_rfl) rfl #[.pointer (some ⟨r, 0, none⟩), .string su, .int .i64 vb, .string pa] (by rfl) rfl rfl (by (try simp only [List.map_toArray, List.map_cons, List.map_nil]); first | done | rfl) ?_
    with_reducible refine (rmay_ok wz r base v L su vb pa RD.out HLL.out HPA.out (fun x hx => by have := path_size (formed_path (HS.out.formed x hx)); omega)).mono ?_
    rintro e wz ⟨rfl, hb⟩
    have TDb := Aside0.mk (TD.out.below hb)
    have RDb := Aside0.mk (RD.out.below hb)
    have NDb := Aside0.mk (blk_below ND.out hb)
    have ADb := Aside0.mk (AD.out.trans (below_lower hb AD.out.size))
    have E7b := Aside0.mk (blk_below E7.out hb)
    have E9b := Aside0.mk (blk_below E9.out hb)
    clear TD RD ND AD E7 E9
    have E7 := E7b
    have E9 := E9b
    clear E7b E9b
    have TD := TDb
    have RD := RDb
    have ND := NDb
    have AD := ADb
    clear TDb RDb NDb ADb
    clear hb
    refine ⟨_, rfl, ?_⟩
    refine hK.out _ _ ⟨(blk_cell ND.out 0).trans rfl, (blk_cell ND.out 1).trans rfl, (blk_cell ND.out 2).trans rfl, (blk_cell ND.out 3).trans rfl, (blk_cell ND.out 4).trans rfl, (blk_cell ND.out 5).trans rfl, (blk_cell ND.out 6).trans rfl, (blk_cell ND.out 7).trans rfl, (blk_cell ND.out 8).trans rfl, (blk_cell ND.out 9).trans rfl, (blk_cell E7.out 0).trans rfl, (blk_cell E7.out 1).trans rfl, (blk_cell E7.out 2).trans rfl, (blk_cell E7.out 3).trans rfl, (blk_cell E9.out 0).trans rfl, (blk_cell E9.out 1).trans rfl, (blk_cell E9.out 2).trans rfl, (blk_cell E9.out 3).trans rfl⟩ (fun hHeld => ?_)
    clear hK K
    refine norm_ (a' := ?_) ?_ ?_
    rotate_left
    · show Act.put _ (some 98) _ = _
      simp only [Act.put, List.setIfInBounds_toArray, List.set_cons_zero, List.set_cons_succ, i64_w, i32_w]
      rfl
    rw [may_same HS.out su vb pa]
    refine pure_ (i := 25) (N := some 99) (v := ?_) (a' := ?_) #[true, true, true, true, true, true, true, true, true, true, true, true, true, true, true, true, true, true, true, true, true, true, true, true, true, true, false, false] rfl rfl (by kernel_rfl) (fun _ _ _ h => h) (Or.inl ⟨by rfl, ?_⟩) ?_ ?_
    rotate_left
    · intro w'
      go_simp
      with_reducible rfl
    rotate_left
    · simp only [Act.put, List.setIfInBounds_toArray, List.set_cons_zero, List.set_cons_succ, i64_w, i32_w]
      rfl
    refine pure_ (i := 26) (N := some 100) (v := ?_) (a' := ?_) #[true, true, true, true, true, true, true, true, true, true, true, true, true, true, true, true, true, true, true, true, true, true, true, true, true, true, true, false] rfl rfl (by kernel_rfl) (fun _ _ _ h => h) (Or.inl ⟨by rfl, ?_⟩) ?_ ?_
    rotate_left
    · intro w'
      go_simp
      with_reducible rfl
    rotate_left
    · simp only [Act.put, List.setIfInBounds_toArray, List.set_cons_zero, List.set_cons_succ, i64_w, i32_w]
      rfl
    refine pure_ (i := 27) (N := some 6) (v := ?_) (a' := ?_) #[true, true, true, true, true, true, true, true, true, true, true, true, true, true, true, true, true, true, true, true, true, true, true, true, true, true, true, true] rfl rfl (by kernel_rfl) (fun _ _ _ h => h) (Or.inl ⟨by rfl, ?_⟩) ?_ ?_
    rotate_left
    · intro w'
      go_simp
      with_reducible rfl
    rotate_left
    · simp only [Act.put, List.setIfInBounds_toArray, List.set_cons_zero, List.set_cons_succ, i64_w, i32_w]
      rfl
    refine done_ (by kernel_rfl) ?_
    clear hHeld
    go_wp2
    go_ret
    exact ⟨by simp <;> rfl, ⟨⟨M, L, v, TD.out, RD.out, HS.out, Nat.le_succ _, PStep.still AD.out⟩⟩⟩
  have e4 : (kd == 4) = false := beq_eq_false_iff_ne.2 c4
  by_cases c5 : kd = 5
  · have e5 : (kd == 5) = true := beq_iff_eq.2 c5
    go_upto_region 13 with fail
    clear hd0 hd1 hd2 hd3 hd4 hd5 hd6 hd7 hd8 hd9
    refine start_ (n := 14) (S := fun w' => w'.cell? ⟨pp, 0, none⟩ = some (.bool two) ∧ w'.cell? ⟨pp, 1, none⟩ = some (.int .i64 kd) ∧ w'.cell? ⟨pp, 2, none⟩ = some (.int .i64 vb) ∧ w'.cell? ⟨pp, 3, none⟩ = some (.string bp) ∧ w'.cell? ⟨pp, 4, none⟩ = some (.string bn) ∧ w'.cell? ⟨pp, 5, none⟩ = some (.string bs) ∧ w'.cell? ⟨pp, 6, none⟩ = some (.int .i64 bv) ∧ w'.cell? ⟨pp, 7, none⟩ = some (.string pa) ∧ w'.cell? ⟨pp, 8, none⟩ = some (.string na) ∧ w'.cell? ⟨pp, 9, none⟩ = some (.string su)) (ds := []) #[false, false, false, false, false, false, false, false, false, false, false, false, false, false] (by kernel_rfl) rfl rfl ⟨(blk_cell (blk_drew NW.out) 0).trans rfl, (blk_cell (blk_drew NW.out) 1).trans rfl, (blk_cell (blk_drew NW.out) 2).trans rfl, (blk_cell (blk_drew NW.out) 3).trans rfl, (blk_cell (blk_drew NW.out) 4).trans rfl, (blk_cell (blk_drew NW.out) 5).trans rfl, (blk_cell (blk_drew NW.out) 6).trans rfl, (blk_cell (blk_drew NW.out) 7).trans rfl, (blk_cell (blk_drew NW.out) 8).trans rfl, (blk_cell (blk_drew NW.out) 9).trans rfl⟩ (fun hHeld => ?_)
    have AD := Aside0.mk (below_drew1 AL.out)
    have ND := Aside0.mk (blk_drew NW.out)
    have TD := Aside0.mk (TL.out.below (below_drew (Below.refl _ _)))
    have RD := Aside0.mk (RL.out.below (below_drew (Below.refl _ _)))
    clear AL NW TL RL
    generalize w1.drew = wd at AD ND TD RD hHeld ⊢
    refine pure_ (i := 0) (N := some 103) (v := ?_) (a' := ?_) #[true, false, false, false, false, false, false, false, false, false, false, false, false, false] rfl rfl (by kernel_rfl) (fun _ _ _ h => h) (Or.inl ⟨by rfl, ?_⟩) ?_ ?_
    rotate_left
    · intro w'
      go_simp
      with_reducible rfl
    rotate_left
    · simp only [Act.put, List.setIfInBounds_toArray, List.set_cons_zero, List.set_cons_succ, i64_w, i32_w]
      rfl
    refine pure_ (i := 1) (N := some 104) (v := ?_) (a' := ?_) #[true, true, false, false, false, false, false, false, false, false, false, false, false, false] rfl rfl (by kernel_rfl) (fun _ _ _ h => h) (Or.inl ⟨by rfl, ?_⟩) ?_ ?_
    rotate_left
    · intro w'
      go_simp
      with_reducible rfl
    rotate_left
    · simp only [Act.put, List.setIfInBounds_toArray, List.set_cons_zero, List.set_cons_succ, i64_w, i32_w]
      rfl
    refine take_ (i := 2) (N := some 105) (v := ?_) (a' := ?_) #[true, true, true, false, false, false, false, false, false, false, false, false, false, false] rfl rfl (by kernel_rfl) (fun _ _ _ h => h) (Or.inl ⟨by rfl, ?_⟩) hHeld ?_ ?_
    rotate_left
    · rintro w' ⟨s0, s1, s2, s3, s4, s5, s6, s7, s8, s9⟩
      go_simp
      with_reducible rfl
    rotate_left
    · simp only [Act.put, List.setIfInBounds_toArray, List.set_cons_zero, List.set_cons_succ, i64_w, i32_w]
      rfl
    refine pure_ (i := 3) (N := some 106) (v := ?_) (a' := ?_) #[true, true, true, true, false, false, false, false, false, false, false, false, false, false] rfl rfl (by kernel_rfl) (fun _ _ _ h => h) (Or.inl ⟨by rfl, ?_⟩) ?_ ?_
    rotate_left
    · intro w'
      go_simp
      with_reducible rfl
    rotate_left
    · simp only [Act.put, List.setIfInBounds_toArray, List.set_cons_zero, List.set_cons_succ, i64_w, i32_w]
      rfl
    refine take_ (i := 4) (N := some 107) (v := ?_) (a' := ?_) #[true, true, true, true, true, false, false, false, false, false, false, false, false, false] rfl rfl (by kernel_rfl) (fun _ _ _ h => h) (Or.inl ⟨by rfl, ?_⟩) hHeld ?_ ?_
    rotate_left
    · rintro w' ⟨s0, s1, s2, s3, s4, s5, s6, s7, s8, s9⟩
      go_simp
      with_reducible rfl
    rotate_left
    · simp only [Act.put, List.setIfInBounds_toArray, List.set_cons_zero, List.set_cons_succ, i64_w, i32_w]
      rfl
    refine pure_ (i := 6) (N := some 109) (v := ?_) (a' := ?_) #[true, true, true, true, true, false, true, false, false, false, false, false, false, false] rfl rfl (by kernel_rfl) (fun _ _ _ h => h) (Or.inl ⟨by rfl, ?_⟩) ?_ ?_
    rotate_left
    · intro w'
      go_simp
      with_reducible rfl
    rotate_left
    · simp only [Act.put, List.setIfInBounds_toArray, List.set_cons_zero, List.set_cons_succ, i64_w, i32_w]
      rfl
    refine pure_ (i := 7) (N := some 110) (v := ?_) (a' := ?_) #[true, true, true, true, true, false, true, true, false, false, false, false, false, false] rfl rfl (by kernel_rfl) (fun _ _ _ h => h) (Or.inl ⟨by rfl, ?_⟩) ?_ ?_
    rotate_left
    · intro w'
      go_simp
      with_reducible rfl
    rotate_left
    · simp only [Act.put, List.setIfInBounds_toArray, List.set_cons_zero, List.set_cons_succ, i64_w, i32_w]
      rfl
    refine take_ (i := 8) (N := some 111) (v := ?_) (a' := ?_) #[true, true, true, true, true, false, true, true, true, false, false, false, false, false] rfl rfl (by kernel_rfl) (fun _ _ _ h => h) (Or.inl ⟨by rfl, ?_⟩) hHeld ?_ ?_
    rotate_left
    · rintro w' ⟨s0, s1, s2, s3, s4, s5, s6, s7, s8, s9⟩
      go_simp
      with_reducible rfl
    rotate_left
    · simp only [Act.put, List.setIfInBounds_toArray, List.set_cons_zero, List.set_cons_succ, i64_w, i32_w]
      rfl
    refine pure_ (i := 9) (N := some 112) (v := ?_) (a' := ?_) #[true, true, true, true, true, false, true, true, true, true, false, false, false, false] rfl rfl (by kernel_rfl) (fun _ _ _ h => h) (Or.inl ⟨by rfl, ?_⟩) ?_ ?_
    rotate_left
    · intro w'
      go_simp
      with_reducible rfl
    rotate_left
    · simp only [Act.put, List.setIfInBounds_toArray, List.set_cons_zero, List.set_cons_succ, i64_w, i32_w]
      rfl
    refine take_ (i := 10) (N := some 113) (v := ?_) (a' := ?_) #[true, true, true, true, true, false, true, true, true, true, true, false, false, false] rfl rfl (by kernel_rfl) (fun _ _ _ h => h) (Or.inl ⟨by rfl, ?_⟩) hHeld ?_ ?_
    rotate_left
    · rintro w' ⟨s0, s1, s2, s3, s4, s5, s6, s7, s8, s9⟩
      go_simp
      with_reducible rfl
    rotate_left
    · simp only [Act.put, List.setIfInBounds_toArray, List.set_cons_zero, List.set_cons_succ, i64_w, i32_w]
      rfl
    refine one_ (i := 5) (N := some 108) #[true, true, true, true, true, true, true, true, true, true, true, false, false, false] rfl rfl (by kernel_rfl) (by decide) (fun K hK => ?_)
    refine goes_ Tryz.func21 (by kernel_rfl) rfl #[.pointer (some ⟨t, 0, none⟩), .string su, .int .i64 vb] (by rfl) rfl rfl (by (try simp only [List.map_toArray, List.map_cons, List.map_nil]); first | done | rfl) ?_
    with_reducible refine (reach_ok wd t b M L su vb TD.out HS.out.told (GL.out.below AD.out) HM.out).mono ?_
    rintro e wz ⟨v1, rfl, hR1, hb⟩
    obtain ⟨A1, c1, rfl⟩ := Kd.R_slice hR1
    have X1 := Aside0.mk (Kd.R_reads' hR1).2.2
    clear hR1
    have TDb := Aside0.mk (TD.out.below hb)
    have RDb := Aside0.mk (RD.out.below hb)
    have NDb := Aside0.mk (blk_below ND.out hb)
    have ADb := Aside0.mk (AD.out.trans (below_lower hb AD.out.size))
    clear TD RD ND AD
    have TD := TDb
    have RD := RDb
    have ND := NDb
    have AD := ADb
    clear TDb RDb NDb ADb
    clear hb
    refine ⟨_, rfl, ?_⟩
    refine hK.out _ _ ⟨(blk_cell ND.out 0).trans rfl, (blk_cell ND.out 1).trans rfl, (blk_cell ND.out 2).trans rfl, (blk_cell ND.out 3).trans rfl, (blk_cell ND.out 4).trans rfl, (blk_cell ND.out 5).trans rfl, (blk_cell ND.out 6).trans rfl, (blk_cell ND.out 7).trans rfl, (blk_cell ND.out 8).trans rfl, (blk_cell ND.out 9).trans rfl⟩ (fun hHeld => ?_)
    clear hK K
    refine norm_ (a' := ?_) ?_ ?_
    rotate_left
    · show Act.put _ (some 108) _ = _
      simp only [Act.put, List.setIfInBounds_toArray, List.set_cons_zero, List.set_cons_succ, i64_w, i32_w]
      rfl
    refine one_ (i := 11) (N := some 114) #[true, true, true, true, true, true, true, true, true, true, true, true, false, false] rfl rfl (by kernel_rfl) (by decide) (fun K hK => ?_)
    refine goes_ Tryz.func22 (by kernel_rfl) rfl #[.pointer (some ⟨r, 0, none⟩), .string su, .int .i64 vb] (by rfl) rfl rfl (by (try simp only [List.map_toArray, List.map_cons, List.map_nil]); first | done | rfl) ?_
    with_reducible refine (rreach_ok wz r base v L su vb RD.out HLL.out (fun x hx => by have := path_size (formed_path (HS.out.formed x hx)); omega)).mono ?_
    rintro e wz ⟨v2, rfl, hR2, hb⟩
    rw [← reach_same HS.out] at hR2
    obtain ⟨A2, c2, rfl⟩ := Kd.R_slice hR2
    have X2 := Aside0.mk (Kd.R_reads' hR2).2.2
    have X1b := Aside0.mk (Kd.C_below X1.out hb)
    clear hR2 X1
    have TDb := Aside0.mk (TD.out.below hb)
    have RDb := Aside0.mk (RD.out.below hb)
    have NDb := Aside0.mk (blk_below ND.out hb)
    have ADb := Aside0.mk (AD.out.trans (below_lower hb AD.out.size))
    clear TD RD ND AD
    have TD := TDb
    have RD := RDb
    have ND := NDb
    have AD := ADb
    clear TDb RDb NDb ADb
    clear hb
    refine ⟨_, rfl, ?_⟩
    refine hK.out _ _ ⟨(blk_cell ND.out 0).trans rfl, (blk_cell ND.out 1).trans rfl, (blk_cell ND.out 2).trans rfl, (blk_cell ND.out 3).trans rfl, (blk_cell ND.out 4).trans rfl, (blk_cell ND.out 5).trans rfl, (blk_cell ND.out 6).trans rfl, (blk_cell ND.out 7).trans rfl, (blk_cell ND.out 8).trans rfl, (blk_cell ND.out 9).trans rfl⟩ (fun hHeld => ?_)
    clear hK K
    refine norm_ (a' := ?_) ?_ ?_
    rotate_left
    · show Act.put _ (some 114) _ = _
      simp only [Act.put, List.setIfInBounds_toArray, List.set_cons_zero, List.set_cons_succ, i64_w, i32_w]
      rfl
    refine one_ (i := 12) (N := some 115) #[true, true, true, true, true, true, true, true, true, true, true, true, true, false] rfl rfl (by kernel_rfl) (by decide) (fun K hK => ?_)
    refine goes_ Tryz.func20 (by kernel_rfl) rfl #[.slice A1 (reachS L su vb).length c1, .slice A2 (reachS L su vb).length c2] (by rfl) rfl rfl (by (try simp only [List.map_toArray, List.map_cons, List.map_nil]); first | done | rfl) ?_
    with_reducible refine (texts_same A1 A2 c1 c2 (reachS L su vb) _ X1b.out X2.out (reachS_len (by have := HLL.out; omega))).mono ?_
    rintro e wz ⟨rfl, hb⟩
    have TDb := Aside0.mk (TD.out.below hb)
    have RDb := Aside0.mk (RD.out.below hb)
    have NDb := Aside0.mk (blk_below ND.out hb)
    have ADb := Aside0.mk (AD.out.trans (below_lower hb AD.out.size))
    clear TD RD ND AD
    have TD := TDb
    have RD := RDb
    have ND := NDb
    have AD := ADb
    clear TDb RDb NDb ADb
    clear hb
    refine ⟨_, rfl, ?_⟩
    refine hK.out _ _ ⟨(blk_cell ND.out 0).trans rfl, (blk_cell ND.out 1).trans rfl, (blk_cell ND.out 2).trans rfl, (blk_cell ND.out 3).trans rfl, (blk_cell ND.out 4).trans rfl, (blk_cell ND.out 5).trans rfl, (blk_cell ND.out 6).trans rfl, (blk_cell ND.out 7).trans rfl, (blk_cell ND.out 8).trans rfl, (blk_cell ND.out 9).trans rfl⟩ (fun hHeld => ?_)
    clear hK K
    refine norm_ (a' := ?_) ?_ ?_
    rotate_left
    · show Act.put _ (some 115) _ = _
      simp only [Act.put, List.setIfInBounds_toArray, List.set_cons_zero, List.set_cons_succ, i64_w, i32_w]
      rfl
    refine pure_ (i := 13) (N := some 6) (v := ?_) (a' := ?_) #[true, true, true, true, true, true, true, true, true, true, true, true, true, true] rfl rfl (by kernel_rfl) (fun _ _ _ h => h) (Or.inl ⟨by rfl, ?_⟩) ?_ ?_
    rotate_left
    · intro w'
      go_simp
      with_reducible rfl
    rotate_left
    · simp only [Act.put, List.setIfInBounds_toArray, List.set_cons_zero, List.set_cons_succ, i64_w, i32_w]
      rfl
    refine done_ (by kernel_rfl) ?_
    clear hHeld
    go_wp2
    go_ret
    exact ⟨by simp <;> rfl, ⟨⟨M, L, v, TD.out, RD.out, HS.out, Nat.le_succ _, PStep.still AD.out⟩⟩⟩
  have e5 : (kd == 5) = false := beq_eq_false_iff_ne.2 c5
  by_cases c6 : kd = 6
  · have e6 : (kd == 6) = true := beq_iff_eq.2 c6
    have LST := Lib.hid (list_ok w1 t b M TL.out (GL.out.below AL.out) HM.out)
    go_wp2_with (first
      | (go_at_call 8; (with_reducible refine LST.out.mono ?_); rintro e w2 ⟨v1, L5, rfl, hP, hS2, hR2, hb⟩; obtain ⟨A5, c5', rfl⟩ := Kd.R_slice hR2; have hL5 : L = L5 := (HS.out.list hP hS2).symm; subst hL5; have X2 := Aside0.mk (Kd.R_reads' hR2).2.2; have A2 := Aside0.mk (AL.out.trans (below_lower hb AL.out.size)); have T2 := Aside0.mk (TL.out.below hb); have R2 := Aside0.mk (RL.out.below hb); clear hP hS2 hR2 hb)
      | (go_at_call 9; (with_reducible refine (rlist_ok w2 r base v L R2.out (by have := HLL.out; omega)).mono ?_); rintro e w3 ⟨v1, rfl, hR3, hb⟩; obtain ⟨A6, c6', rfl⟩ := Kd.R_slice hR3; have X3 := Aside0.mk (Kd.R_reads' hR3).2.2; have X2b := Aside0.mk (Kd.C_below X2.out hb); have A3 := Aside0.mk (A2.out.trans (below_lower hb A2.out.size)); have T3 := Aside0.mk (T2.out.below hb); have R3 := Aside0.mk (R2.out.below hb); clear hR3 hb)
      | (go_at_call 7; (with_reducible refine (same_self3 (same_ok A5 A6 c5' c6' L L w3 X2b.out X3.out (by have := HLL.out; omega))).mono ?_); rintro e w4 ⟨rfl, hb⟩; have AD := Aside0.mk (A3.out.trans (below_lower hb A3.out.size)); have TD := Aside0.mk (T3.out.below hb); have RD := Aside0.mk (R3.out.below hb); clear hb))
    go_ret
    exact ⟨rfl, ⟨⟨M, L, v, TD.out, RD.out, HS.out, Nat.le_succ _, PStep.still AD.out⟩⟩⟩
  have e6 : (kd == 6) = false := beq_eq_false_iff_ne.2 c6
  go_wp2
  go_ret
  exact ⟨rfl, ⟨⟨M, L, v, TL.out, RL.out, HS.out, Nat.le_succ _, PStep.still AL.out⟩⟩⟩
end Go.Proofs.YtphddbijdfmpjaaGreatDoor.Q
namespace Go.Proofs.YtphddbijdfmpjaaGreatDoor.Q
open Go.RowKit Go.Lib Go.ChangeShapes Go.Proofs.YtphddbijdfmpjaaGreatDoorW.PrintWords Go.Proofs.YtphddbijdfmpjaaGreatDoorW.PrintLast
set_option linter.unusedVariables false
set_option linter.unusedSimpArgs false
theorem laid_one {P : Program} {w : World} {l : List (String × DataW Unit)} {n : String} {d : DataW Unit} (h : laidMetH P l w) (hl : (l.filter fun x => x.1 == n) = [(n, d)]) (hd : d.handleName? = none) : laidMet P [(n, d)] w := by
  have h1 := h.filter (fun x => x.1 == n)
  rw [hl] at h1
  have h2 := (laidMetH_iff.1 h1).1
  have e : ([(n, d)] : List (String × DataW Unit)).filter (fun x => x.2.handleName?.isNone) = [(n, d)] := by simp [List.filter_cons, hd]
  rw [e] at h2
  exact h2
theorem letters_laid {w : World} (h : laidMet Tryz.prog [("bursar/object.letters", Rows.laid_bursar_object_letters)] w) : w.cell? ⟨0, 4, none⟩ = some (.int .u8 66) :=
  (Lib.tabIs_of_head (k := .u8) (zs := [0, 81, 76, 79, 66]) (g := 0) (t := 96) (e := 5) (n := 5) (by kernel_rfl) (by kernel_rfl) Tryz.underlying96 Tryz.underlying5 (by kernel_rfl) (by kernel_rfl) h).cell (by kernel_rfl) 4 (by decide)
theorem glob_of {W : World} (hsh : W.ShapedOpen Tryz.prog) (h : laidMetH Tryz.prog Rows.accessPlaysRow.laid W) : Glob W :=
  ⟨Tryz.laysM146.s1_3 W hsh, letters_laid (laid_one h rfl rfl)⟩
end Go.Proofs.YtphddbijdfmpjaaGreatDoor.Q
namespace Go.Proofs.YtphddbijdfmpjaaGreatDoor.Q
open Go.RowKit Go.MapRaw Go.Proofs.YtphddbijdfmpjaaGreatDoorW.PrintWords Go.Proofs.YtphddbijdfmpjaaGreatDoorW.PrintLast Go.Proofs.YtphddbijdfmpjaaGreatDoor.Wr
set_option linter.unusedVariables false
set_option linter.unusedSimpArgs false
def Small29 (l : List OpV) : Prop := l.length ≤ 1048576 ∧ ∀ o ∈ l, o.b.path.size ≤ 1048576 ∧ o.path.size ≤ 1048576
def Dist (n ta ba tb bb rx ry : Nat) : Prop := n ≤ ta ∧ n ≤ ba ∧ n ≤ tb ∧ n ≤ bb ∧ n ≤ rx ∧ n ≤ ry ∧ ta ≠ ba ∧ ta ≠ tb ∧ ta ≠ bb ∧ ta ≠ rx ∧ ta ≠ ry ∧ ba ≠ tb ∧ ba ≠ bb ∧ ba ≠ rx ∧ ba ≠ ry ∧ tb ≠ bb ∧ tb ≠ rx ∧ tb ≠ ry ∧ bb ≠ rx ∧ bb ≠ ry ∧ rx ≠ ry
theorem RT.lower {w : World} {r base base' : Nat} {v : Value} {L : List Bnd} (h : RT w r base v L) (hb : base' ≤ base) : RT w r base' v L := ⟨h.blk, Kd.R_lower h.row hb⟩
structure Four (w0 w : World) (ta ba tb bb rx ry : Nat) (vx vy : Value) (M1 M2 : Tab) (L1 L2 : List Bnd) : Prop where
  a : TB w ta ba M1
  b : TB w tb bb M2
  x : RT w rx w0.heap.size vx L1
  y : RT w ry w0.heap.size vy L2
  s1 : Same M1 L1
  s2 : Same M2 L2
  dist : Dist w0.heap.size ta ba tb bb rx ry
  ownx : ∀ k, vx.ownBlock = some k → k ≠ ta ∧ k ≠ ba ∧ k ≠ tb ∧ k ≠ bb ∧ k ≠ rx ∧ k ≠ ry
  owny : ∀ k, vy.ownBlock = some k → k ≠ ta ∧ k ≠ ba ∧ k ≠ tb ∧ k ≠ bb ∧ k ≠ rx ∧ k ≠ ry
  apart : ∀ k, vx.ownBlock = some k → vy.ownBlock ≠ some k
  below : Below w0.heap.size w0 w
theorem Four.swap {w0 w : World} {ta ba tb bb rx ry : Nat} {vx vy : Value} {M1 M2 : Tab} {L1 L2 : List Bnd} (h : Four w0 w ta ba tb bb rx ry vx vy M1 M2 L1 L2) : Four w0 w tb bb ta ba ry rx vy vx M2 M1 L2 L1 :=
  ⟨h.b, h.a, h.y, h.x, h.s2, h.s1, by have := h.dist; unfold Dist at *; omega, fun k hk => by have := h.owny k hk; omega, fun k hk => by have := h.ownx k hk; omega, fun k hk e => h.apart k e hk, h.below⟩
theorem Four.still {w0 w w' : World} {ta ba tb bb rx ry : Nat} {vx vy : Value} {M1 M2 : Tab} {L1 L2 : List Bnd} (h : Four w0 w ta ba tb bb rx ry vx vy M1 M2 L1 L2) (hb : Below w.heap.size w w') : Four w0 w' ta ba tb bb rx ry vx vy M1 M2 L1 L2 :=
  ⟨h.a.below hb, h.b.below hb, h.x.below hb, h.y.below hb, h.s1, h.s2, h.dist, h.ownx, h.owny, h.apart, h.below.trans (below_lower hb h.below.size)⟩
theorem Four.stepA {w0 w w' : World} {ta ba tb bb rx ry : Nat} {vx vx' vy : Value} {M1 M2 M1' : Tab} {L1 L2 L1' : List Bnd} (h : Four w0 w ta ba tb bb rx ry vx vy M1 M2 L1 L2) (hA : TB w' ta ba M1') (hX : RT w' rx w0.heap.size vx' L1') (hS : Same M1' L1') (hP : PStep w w' ba rx vx vx') : Four w0 w' ta ba tb bb rx ry vx' vy M1' M2 L1' L2 := by
  have hd := h.dist
  unfold Dist at hd
  have l1 := blk_lt h.a.at_
  have l2 := Holds_lt h.a.holds
  have l3 := blk_lt h.b.at_
  have l4 := Holds_lt h.b.holds
  have l5 := h.x.lt
  have l6 := h.y.lt
  have key : ∀ k, k < w.heap.size → k ≠ ba → k ≠ rx → vx.ownBlock ≠ some k → w'.heap[k]? = w.heap[k]? := hP.block
  have nx : ∀ k, (k = tb ∨ k = bb ∨ k = ry) → vx.ownBlock ≠ some k := fun k hk e => by have := h.ownx k e; omega
  refine ⟨hA, h.b.keep (key tb l3 (by omega) (by omega) (nx tb (by omega))) (key bb l4 (by omega) (by omega) (nx bb (by omega))), hX, h.y.keep (key ry l6 (by omega) (by omega) (nx ry (by omega))) (fun k hk => key k (h.y.own_lt k hk).2.1 (by have := h.owny k hk; omega) (by have := h.owny k hk; omega) (fun e => h.apart k e hk)), hS, h.s2, h.dist, fun k hk => ?_, h.owny, fun k hk e => ?_, ?_⟩
  · rcases hP.own k hk with h1 | h1
    · exact h.ownx k h1
    · omega
  · rcases hP.own k hk with h1 | h1
    · exact h.apart k h1 e
    · have := (h.y.own_lt k e).2.1; omega
  · refine h.below.trans ⟨hP.os, hP.tape, hP.output, hP.size, fun k hk => ?_⟩
    have hs := h.below.size
    exact key k (by omega) (by omega) (by omega) (fun e => by have := (h.x.own_lt k e).1; omega)
set_option maxRecDepth 100000 in
set_option maxHeartbeats 32000000 in
theorem bursarlaw21_AccessPlays.calls (k : Nat) (A : Option Addr) (c : Nat) (l : List OpV) (r : Bool) (w : World) (hr : k29.C w A l.length l) (hc : l.length ≤ c) (hp : Small29 l ∧ r = true) (hG : Glob w) :
    Calls Tryz.prog 3 #[.slice A l.length c] w fun e w' => e = .returned (.bool r) ∧ Below w.heap.size w w' := by
  obtain ⟨hsm, hp⟩ := hp
  have hu28 := Tryz.underlying28
  have hu30 := Tryz.underlying30
  have GL := Lib.hid hG
  have CR := Lib.hid hr
  have HLL := Lib.hid hsm.1
  have HSS := Lib.hid hsm.2
  have HP := Lib.hid hp
  have NT := Lib.hid (fun w' => newT_ok w')
  have NR := Lib.hid (fun w' => rnew_ok w')
  clear hr hG hsm hc hp
  go_enter Tryz.func3, Tryz.ntmps3
  go_upto_region 2 with (go_at_call 4; refine (NT.out w).mono ?_; rintro e w1 ⟨ta, ba, rfl, hT, h1, h2, hb⟩; have TA := Aside0.mk hT; have LA := Lib.hid (And.intro h1 h2); have B1 := Aside0.mk hb; clear hT h1 h2 hb)
  go_upto_region 3 with (go_at_call 4; refine (NT.out w1).mono ?_; rintro e w2 ⟨tb, bb, rfl, hT, h1, h2, hb⟩; have TB2 := Aside0.mk hT; have LB := Lib.hid (And.intro h1 h2); have TA2 := Aside0.mk (TA.out.below hb); have B2 := Aside0.mk hb; clear hT h1 h2 hb)
  go_upto_region 4 with (go_at_call 5; refine (NR.out w2).mono ?_; rintro e w3 ⟨rx, rfl, hT, h1, hb⟩; have RX3 := Aside0.mk hT; have LX := Lib.hid h1; have TA3 := Aside0.mk (TA2.out.below hb); have TB3 := Aside0.mk (TB2.out.below hb); have B3 := Aside0.mk hb; clear hT h1 hb)
  go_upto_region 5 with (go_at_call 5; refine (NR.out w3).mono ?_; rintro e w4 ⟨ry, rfl, hT, h1, hb⟩; have RY4 := Aside0.mk hT; have LY := Lib.hid h1; have TA4 := Aside0.mk (TA3.out.below hb); have TB4 := Aside0.mk (TB3.out.below hb); have RX4 := Aside0.mk (RX3.out.below hb); have B4 := Aside0.mk hb; clear hT h1 hb)
  have F0 := Aside0.mk (show Four w w4 ta ba tb bb rx ry (.slice none 0 0) (.slice none 0 0) [] [] [] [] by
    have s1 := B1.out.size
    have s2 := B2.out.size
    have s3 := B3.out.size
    have l1 := blk_lt TA.out.at_
    have l2 := Holds_lt TA.out.holds
    have l3 := blk_lt TB2.out.at_
    have l4 := Holds_lt TB2.out.holds
    have l5 := RX3.out.lt
    have e1 := LA.out
    have e2 := LB.out
    have e3 := LX.out
    have e4 := LY.out
    have n1 := TA.out.ne
    have n2 := TB2.out.ne
    refine ⟨TA4.out, TB4.out, RX4.out.lower (by omega), RY4.out.lower (by omega), Same.nil, Same.nil, by unfold Dist; omega, fun k hk => (by cases hk), fun k hk => (by cases hk), fun k hk => (by cases hk), B1.out.trans (below_lower (B2.out.trans (below_lower (B3.out.trans (below_lower B4.out B3.out.size)) B2.out.size)) B1.out.size)⟩)
  clear TA TB2 TA2 RX3 TA3 TB3 RY4 TA4 TB4 RX4 B1 B2 B3 B4 LA LB LX LY NT NR
  go_upto_region 8 with fail
  go_loopg [7] l.length (fun g v7 wr => ∃ (i : Nat) (M1 M2 : Tab) (L1 L2 : List Bnd) (vx vy : Value), v7 = .int .i64 (i : Int) ∧ Aside0 (i + g = l.length) ∧ Aside0 (L1.length ≤ i ∧ L2.length ≤ i) ∧ Aside0 (Four w wr ta ba tb bb rx ry vx vy M1 M2 L1 L2))
  case atStart => exact ⟨0, [], [], [], [], _, _, rfl, ⟨by omega⟩, ⟨by simp⟩, F0⟩
  case round =>
    clear F0
    obtain ⟨i, M1, M2, L1, L2, vx, vy, rfl, HI, HL, HF⟩ := hrel
    by_cases hi : i < l.length
    rotate_left
    · have d1 : decide ((i : Int) < (l.length : Int)) = false := decide_eq_false (by omega)
      have d1n : decide (i < l.length) = false := decide_eq_false hi
      clear hi
      have HN := Lib.hid (show L1.length ≤ 1048576 ∧ L2.length ≤ 1048576 ∧ M1.length ≤ 1048576 ∧ M2.length ≤ 1048576 by
        have h1 := HF.out.s1.perm.length_eq
        have h2 := HF.out.s2.perm.length_eq
        rw [List.length_map] at h1 h2
        have := HL.out; have := HI.out; have := HLL.out; omega)
      have LA := Lib.hid (list_ok wr ta ba M1 HF.out.a (GL.out.below HF.out.below) (by have := HN.out; omega))
      go_wp2_with (first
        | (go_at_call 8; (with_reducible refine LA.out.mono ?_); rintro e w2 ⟨v1, L5, rfl, hP, hS2, hR2, hb⟩; obtain ⟨A5, c5, rfl⟩ := Kd.R_slice hR2; have hL5 : L1 = L5 := (HF.out.s1.list hP hS2).symm; subst hL5; have X2 := Aside0.mk (Kd.R_reads' hR2).2.2; have F2 := Aside0.mk (HF.out.still hb); clear hP hS2 hR2 hb)
        | (go_at_call 9; (with_reducible refine (rlist_ok w2 rx w.heap.size vx L1 F2.out.x (by have := HN.out; omega)).mono ?_); rintro e w3 ⟨v1, rfl, hR3, hb⟩; obtain ⟨A6, c6, rfl⟩ := Kd.R_slice hR3; have X3 := Aside0.mk (Kd.R_reads' hR3).2.2; have X2b := Aside0.mk (Kd.C_below X2.out hb); have F3 := Aside0.mk (F2.out.still hb); clear hR3 hb)
        | (go_at_call 7; (with_reducible refine (same_self3 (same_ok A5 A6 c5 c6 L1 L1 w3 X2b.out X3.out (by have := HN.out; omega))).mono ?_); rintro e w4 ⟨rfl, hb⟩; have F4 := Aside0.mk (F3.out.still hb); clear hb)
        | (go_at_call 8; (with_reducible refine (list_ok w4 tb bb M2 F4.out.b (GL.out.below F4.out.below) (by have := HN.out; omega)).mono ?_); rintro e w5 ⟨v1, L5, rfl, hP, hS2, hR2, hb⟩; obtain ⟨A7, c7, rfl⟩ := Kd.R_slice hR2; have hL5 : L2 = L5 := (F4.out.s2.list hP hS2).symm; subst hL5; have Y2 := Aside0.mk (Kd.R_reads' hR2).2.2; have F5 := Aside0.mk (F4.out.still hb); clear hP hS2 hR2 hb)
        | (go_at_call 9; (with_reducible refine (rlist_ok w5 ry w.heap.size vy L2 F5.out.y (by have := HN.out; omega)).mono ?_); rintro e w6 ⟨v1, rfl, hR3, hb⟩; obtain ⟨A8, c8, rfl⟩ := Kd.R_slice hR3; have Y3 := Aside0.mk (Kd.R_reads' hR3).2.2; have Y2b := Aside0.mk (Kd.C_below Y2.out hb); have F6 := Aside0.mk (F5.out.still hb); clear hR3 hb)
        | (go_at_call 7; (with_reducible refine (same_self3 (same_ok A7 A8 c7 c8 L2 L2 w6 Y2b.out Y3.out (by have := HN.out; omega))).mono ?_); rintro e w7 ⟨rfl, hb⟩; have F7 := Aside0.mk (F6.out.still hb); clear hb))
      go_ret
      exact ⟨by rw [HP.out] <;> rfl, F7.out.below⟩
    have d1 : decide ((i : Int) < (l.length : Int)) = true := decide_eq_true (by omega)
    have d1n : decide (i < l.length) = true := decide_eq_true hi
    have p1 : (0 ≤ (i : Int)) = True := eq_true (by omega)
    have p2 : ((i : Int) < (l.length : Int)) = True := eq_true (by omega)
    obtain ⟨ad, hA, hx0, hx⟩ := op_at (Kd.C_below CR.out HF.out.below) i hi
    cases hA
    obtain ⟨g0, rfl⟩ : ∃ g0, gk = g0 + 1 := ⟨gk - 1, by have := HI.out; omega⟩
    have HLT := Lib.hid (show i < 1048576 by have := HLL.out; omega)
    have HSO := Lib.hid (HSS.out l[i] (List.getElem_mem hi))
    generalize l[i] = o at hx0 hx HSO
    clear hi
    obtain ⟨two, kd, vb, ⟨bp, bn, bs, bv⟩, pa, na, su⟩ := o
    have hx1 := hx 1 (.int .i64 kd) (by decide) rfl
    have hx2 := hx 2 (.int .i64 vb) (by decide) rfl
    have hx3 := hx 3 (.string bp) (by decide) rfl
    have hx4 := hx 4 (.string bn) (by decide) rfl
    have hx5 := hx 5 (.string bs) (by decide) rfl
    have hx6 := hx 6 (.int .i64 bv) (by decide) rfl
    have hx7 := hx 7 (.string pa) (by decide) rfl
    have hx8 := hx 8 (.string na) (by decide) rfl
    have hx9 := hx 9 (.string su) (by decide) rfl
    clear hx
    go_upto_region 11 with fail
    have hal := (Below.refl wr.heap.size wr).alloc (Nat.le_refl _) (.cells #[.bool two, .int .i64 kd, .int .i64 vb, .string bp, .string bn, .string bs, .int .i64 bv, .string pa, .string na, .string su] 30)
    have F2 := Aside0.mk (HF.out.still hal)
    have N2 := Aside0.mk (blk_new wr (.cells #[.bool two, .int .i64 kd, .int .i64 vb, .string bp, .string bn, .string bs, .int .i64 bv, .string pa, .string na, .string su] 30))
    obtain ⟨pp, hpp⟩ : ∃ pp, pp = wr.heap.size := ⟨_, rfl⟩
    have HPA := Lib.hid (show pp ≠ ba ∧ pp ≠ rx ∧ vx.ownBlock ≠ some pp ∧ pp ≠ bb ∧ pp ≠ ry ∧ vy.ownBlock ≠ some pp from by
      have l2 := Holds_lt HF.out.a.holds
      have l4 := Holds_lt HF.out.b.holds
      have l5 := HF.out.x.lt
      have l6 := HF.out.y.lt
      refine ⟨by omega, by omega, fun e => ?_, by omega, by omega, fun e => ?_⟩
      · have := (HF.out.x.own_lt pp e).2.1; omega
      · have := (HF.out.y.own_lt pp e).2.1; omega)
    rw [← hpp] at N2 ⊢
    clear hpp hal HF hx0 hx1 hx2 hx3 hx4 hx5 hx6 hx7 hx8 hx9
    generalize wr.alloc _ = w2 at F2 N2 ⊢
    have hd0 := (blk_cell N2.out 0).trans rfl
    have hd1 := (blk_cell N2.out 1).trans rfl
    have hd2 := (blk_cell N2.out 2).trans rfl
    have hd3 := (blk_cell N2.out 3).trans rfl
    have hd4 := (blk_cell N2.out 4).trans rfl
    have hd5 := (blk_cell N2.out 5).trans rfl
    have hd6 := (blk_cell N2.out 6).trans rfl
    have hd7 := (blk_cell N2.out 7).trans rfl
    have hd8 := (blk_cell N2.out 8).trans rfl
    have hd9 := (blk_cell N2.out 9).trans rfl
    cases two with
    | true =>
      have KEY := Lib.hid (plays_ok w2 tb bb ry w.heap.size vy M2 L2 ⟨true, kd, vb, ⟨bp, bn, bs, bv⟩, pa, na, su⟩ F2.out.b F2.out.y F2.out.s2 (by have := F2.out.dist; unfold Dist at this; omega) (by have := F2.out.dist; unfold Dist at this; omega) (fun k hk => by have := F2.out.owny k hk; omega) (by have := F2.out.dist; unfold Dist at this; omega) F2.out.below.size (GL.out.below F2.out.below) (by have := HL.out; have := HLT.out; omega) HSO.out.1 HSO.out.2)
      unfold eO at KEY
      go_upto_region 13 with (go_at_call 6; refine KEY.out.mono ?_; rintro e w3 ⟨rfl, hPP⟩; obtain ⟨M', L', v', hT, hR, hS, hLn, hPS⟩ := hPP.out; have F3 := Aside0.mk (F2.out.swap.stepA hT hR hS hPS).swap; have HLN := Lib.hid hLn; have N3 := Aside0.mk ((hPS.block pp (blk_lt N2.out) HPA.out.2.2.2.1 HPA.out.2.2.2.2.1 HPA.out.2.2.2.2.2).trans N2.out); clear hPP hT hR hS hLn hPS)
      clear hd0 hd1 hd2 hd3 hd4 hd5 hd6 hd7 hd8 hd9
      have hd0 := (blk_cell N3.out 0).trans rfl
      go_wp2
      go_roundg g0
      case measure => omega
      case rel => exact ⟨i + 1, _, _, _, _, _, _, congrArg (Value.int .i64) (by rw [w64 i (by have := HLT.out; omega)]), ⟨by have := HI.out; omega⟩, ⟨by have := HL.out; have := HLN.out; omega⟩, F3⟩
    | false =>
      have KEY := Lib.hid (plays_ok w2 ta ba rx w.heap.size vx M1 L1 ⟨false, kd, vb, ⟨bp, bn, bs, bv⟩, pa, na, su⟩ F2.out.a F2.out.x F2.out.s1 (by have := F2.out.dist; unfold Dist at this; omega) (by have := F2.out.dist; unfold Dist at this; omega) (fun k hk => by have := F2.out.ownx k hk; omega) (by have := F2.out.dist; unfold Dist at this; omega) F2.out.below.size (GL.out.below F2.out.below) (by have := HL.out; have := HLT.out; omega) HSO.out.1 HSO.out.2)
      unfold eO at KEY
      go_wp2_with (go_at_call 6; refine KEY.out.mono ?_; rintro e w3 ⟨rfl, hPP⟩; obtain ⟨M', L', v', hT, hR, hS, hLn, hPS⟩ := hPP.out; have F3 := Aside0.mk (F2.out.stepA hT hR hS hPS); have HLN := Lib.hid hLn; clear hPP hT hR hS hLn hPS)
      go_roundg g0
      case measure => omega
      case rel => exact ⟨i + 1, _, _, _, _, _, _, congrArg (Value.int .i64) (by rw [w64 i (by have := HLT.out; omega)]), ⟨by have := HI.out; omega⟩, ⟨by have := HL.out; have := HLN.out; omega⟩, F3⟩
end Go.Proofs.YtphddbijdfmpjaaGreatDoor.Q
namespace Go.Proofs.YtphddbijdfmpjaaGreatDoor.Q
open Go.RowKit Go.ChangeShapes Go.Proofs.YtphddbijdfmpjaaGreatDoorW.PrintWords Go.Proofs.YtphddbijdfmpjaaGreatDoorW.PrintLast Go.Proofs.YtphddbijdfmpjaaGreatDoor.Wr
set_option linter.unusedVariables false
theorem small29 {H : Type} {d : DataW H} {l : List OpV} (h : RowD OpD d l) (hb : Rows.uptoBulk d ≤ 1048576) : Small29 l := by
  obtain ⟨h1, h2⟩ := bulk_row h
  refine ⟨by omega, fun t ht => ?_⟩
  obtain ⟨i, hi, rfl⟩ := List.getElem_of_mem ht
  obtain ⟨e, ⟨l', rfl, y0, r0, rfl, rfl, y1, r1, rfl, ⟨rfl, _⟩, y2, r2, rfl, ⟨rfl, _⟩, y3, r3, rfl, ⟨l2, rfl, z0, t0, rfl, ⟨rfl, _⟩, z1, t1, rfl, ⟨rfl, _⟩, z2, t2, rfl, ⟨rfl, _⟩, z3, rfl, ⟨rfl, _⟩⟩, y4, r4, rfl, ⟨rfl, _⟩, y5, r5, rfl, ⟨rfl, _⟩, y6, rfl, ⟨rfl, _⟩⟩, he⟩ := h2 i _ (List.getElem?_eq_getElem hi)
  have k1 := bulk_agg (l := [.lit (.bool l[i].two), .lit (.int .i64 l[i].kind), .lit (.int .i64 l[i].verb), .agg [.lit (.string l[i].b.path.data.toList), .lit (.string l[i].b.name.data.toList), .lit (.string l[i].b.subject.data.toList), .lit (.int .i64 l[i].b.verb)], .lit (.string l[i].path.data.toList), .lit (.string l[i].name.data.toList), .lit (.string l[i].subject.data.toList)]) 3 (.agg [.lit (.string l[i].b.path.data.toList), .lit (.string l[i].b.name.data.toList), .lit (.string l[i].b.subject.data.toList), .lit (.int .i64 l[i].b.verb)] : DataW H) rfl
  have k2 := bulk_agg (l := [.lit (.bool l[i].two), .lit (.int .i64 l[i].kind), .lit (.int .i64 l[i].verb), .agg [.lit (.string l[i].b.path.data.toList), .lit (.string l[i].b.name.data.toList), .lit (.string l[i].b.subject.data.toList), .lit (.int .i64 l[i].b.verb)], .lit (.string l[i].path.data.toList), .lit (.string l[i].name.data.toList), .lit (.string l[i].subject.data.toList)]) 4 (.lit (.string l[i].path.data.toList) : DataW H) rfl
  have k3 := bulk_agg (l := [.lit (.string l[i].b.path.data.toList), .lit (.string l[i].b.name.data.toList), .lit (.string l[i].b.subject.data.toList), .lit (.int .i64 l[i].b.verb)]) 0 (.lit (.string l[i].b.path.data.toList) : DataW H) rfl
  have k4 := bulk_str (H := H) l[i].b.path
  have k5 := bulk_str (H := H) l[i].path
  omega
end Go.Proofs.YtphddbijdfmpjaaGreatDoor.Q
namespace Go.Proofs.YtphddbijdfmpjaaGreatDoor.Pure
set_option linter.unusedVariables false
theorem AccessPlays (l : List Wr.OpV) (c0 : Q.Small29 l) : ∃ k : Nat, Q.Small29 l ∧ true = true := ⟨0, c0, rfl⟩
end Go.Proofs.YtphddbijdfmpjaaGreatDoor.Pure
namespace Go.Proofs.YtphddbijdfmpjaaGreatDoor.accessPlays
open Go.ChangeShapes Go.WideShapes Go.ChangeAt Go.RowKit
open Go.ChangeMaps (open_string shut_string)
set_option linter.unusedVariables false
set_option linter.unusedSimpArgs false
theorem own : ownKnob Tryz.prog.godebug = none := by kernel_rfl
theorem laidOut : laidOutB Tryz.prog = true := by kernel_rfl
set_option maxRecDepth 100000 in
theorem contract (H : Type) (enc : TypeId × Value → H) (W : World) (base : Nat) (args : Array Value) (ds gs : List (DataW H)) (before : List MemPlace)
    (hval0 : ∀ (j : Nat) t v, Tryz.f3.params[j]? = some t → args[j]? = some v → Value.okWide Tryz.prog W .any base t v)
    (hW : DataW.Whole enc Tryz.prog Tryz.f3.params.toList Rows.accessPlaysSpec.vars false W args.toList ds gs before)
    (hk : Rows.uptoSmall H (ds ++ gs) = true)
    (hsh : W.ShapedOpen Tryz.prog)
    (hl : laidMetH Tryz.prog Rows.accessPlaysUptoRow.laid W)
    : Calls Tryz.prog 3 args W fun e W' => ∃ v, e = .returned v ∧ Rows.accessPlaysSpec.post enc Tryz.prog Tryz.f3 false true false false W args v W' := by
  have hval : ∀ (j : Nat) t v, Tryz.f3.params[j]? = some t → args[j]? = some v → Value.okWide Tryz.prog W .any base t v := hval0
  have hW' := hW
  obtain ⟨p, q, hA0, hV, rfl, hfz, hnd⟩ := hW
  have hA : DataW.TrodAll enc Tryz.prog W 0 (fun _ => true) true Tryz.f3.params.toList args.toList ds p := hA0
  rw [Tryz.params3] at hA hval
  obtain ⟨v0, vs0, d0, ds0, p0, q0, hargs, rfl, rfl, h0, r0⟩ := trodAll_cons hA
  obtain ⟨rfl, rfl, rfl⟩ := trodAll_nil r0
  obtain rfl : args = #[v0] := by cases args; simp_all
  obtain ⟨rfl, rfl⟩ := trodVars_none hV
  obtain ⟨A0, len0, cap0, rfl⟩ := okWide_slice Tryz.underlying22 (hval 0 22 v0 rfl rfl)
  have k0 := h0
  have lt0 : ∀ x ∈ p0, x.block < W.heap.size := by obtain ⟨m, hm⟩ := k0; exact DataW.trod_lt m _ _ _ hm
  obtain ⟨l0, rfl, hr0, hc0, hz0, hm0⟩ := Q.row_open Tryz.underlying22 (by kernel_rfl) Q.opens29 h0
  have hb := of_decide_eq_true hk
  simp only [List.append_nil, List.cons_append, List.nil_append, Rows.uptoBulkAll, Rows.uptoBulk, Array.length_toList] at hb
  have c0 : Q.Small29 l0 := Q.small29 hz0 (by omega)
  obtain ⟨k, hp⟩ := Pure.AccessPlays l0 c0
  refine (Q.bursarlaw21_AccessPlays.calls k A0 cap0 l0 true W hr0 hc0 hp (Q.glob_of hsh hl)).mono fun e W' ⟨he, bel⟩ => ?_
  subst he
  exact ⟨_, rfl, _, _, _, [], _, [], hW', trodAll_mk1 (shut_bool Tryz.underlying4 _), (trodAll_cons_mk (Below.trod laidOut (by kernel_rfl) (of_decide_eq_true (by kernel_rfl)) k0 bel lt0) trodAll_mk0), rfl, bel.frame _, fun h => by cases h⟩
noncomputable def tab1 : Obj → Obj
  | .cells _ t frozen => .cells (Go.Pinned.utf8FirstZ.map fun (n : Nat) => Value.int .u8 (n : Int)).toArray t frozen
  | o => o
noncomputable def laidWorld (os : Os) : World :=
  { World.doorLaid Tryz.prog 134 os with heap := (World.doorLaid Tryz.prog 134 os).heap.modify 2 tab1 }
theorem laid_met (os : Os) : laidMet Tryz.prog Rows.accessPlaysRow.laid ((laidWorld os).forCall (fun _ _ => 0) ⟨#[], #[.slice none 0 0], []⟩).memory :=
  laidMet_of_run' 8 (by kernel_rfl) (by kernel_rfl)
theorem reads (os : Os) {H : Type} (enc : TypeId × Value → H) : ∃ places, DataW.whole enc Tryz.prog ((laidWorld os).forCall (fun _ _ => 0) ⟨#[], #[.slice none 0 0], []⟩).memory Tryz.f3.params.toList Rows.accessPlaysSpec.vars false (#[.slice none 0 0] : Array Value).toList 8 = some ([.nil], [], places) :=
  ⟨[], by kernel_rfl⟩
set_option maxRecDepth 100000 in
theorem lifted (os : Os) (started : os.Started) (H : Type) (enc : TypeId × Value → H) (F : Stop.Interp) :
    ReturnsInHanded {} Tryz.checked os 3 .any ((Rows.OpenSpec.upto Rows.accessPlaysSpec).preRow enc Tryz.prog Tryz.f3 Rows.accessPlaysUptoRow.domain false Rows.accessPlaysUptoRow.laid) (((Rows.OpenSpec.upto Rows.accessPlaysSpec).at F).post enc Tryz.prog Tryz.f3 false true false false) := by
  obtain ⟨places, hx⟩ := reads os enc
  refine returnsInHanded_of_row (C := Tryz.checked) (s := Rows.OpenSpec.upto Rows.accessPlaysSpec) own started (by kernel_rfl) Tryz.func3
    (witness_row_at (enc := enc) (C := Tryz.checked) false (laidWorld os) #[.slice none 0 0] rfl (by kernel_rfl) (by kernel_rfl) (by kernel_rfl)
      (OpenSpec.preRow_of_cond 8 hx (by kernel_rfl) (fun k hk => by cases hk; kernel_rfl) (by kernel_rfl) (laid_met os))) ?_
  intro W base args ds gs before hval hW _ hcond hsz hl hsh _
  exact contract H enc W base args ds gs before hval hW (hcond _ rfl) hsh hl
theorem said : Rows.AccessPlaysUptoSaid :=
  OpenClaim.holds_of_cond 3 Tryz.f3 rfl rfl rfl rfl rfl rfl rfl ⟨rfl, rfl, rfl, rfl, rfl⟩ rfl rfl rfl rfl rfl (by kernel_rfl) Tryz.func3 (by kernel_rfl)
    (of_decide_eq_true (by kernel_rfl)) (by unfold Func.isWrapper; first | (rw [if_pos (by decide +kernel)]; kernel_rfl) | (rw [if_neg (by decide +kernel)]; exact ⟨rfl, rfl⟩))
    (fun os started H enc _ F => by rw [OpenClaim.pre_eq_preRow]; exact lifted os started H enc F)
theorem plain (f : FuncId) (fn : Func) (hf : Tryz.pinned.checked.prog.funcNamed "bursar/bursarlaw21.AccessPlays" = some f) (hfn : Tryz.pinned.checked.prog.funcs[f]? = some fn) :
    false = Tryz.pinned.checked.prog.looks [] ∧ ∀ (j : Nat) t, fn.params[j]? = some t → Tryz.pinned.checked.prog.wantsStandIn t = false := by
  obtain rfl : f = 3 := Option.some.inj ((show Tryz.prog.funcNamed "bursar/bursarlaw21.AccessPlays" = some 3 by kernel_rfl).symm.trans hf) |>.symm
  obtain rfl : fn = Tryz.f3 := (Option.some.inj (Tryz.func3.symm.trans hfn)).symm
  refine ⟨by kernel_rfl, fun j t ht => ?_⟩
  rw [Tryz.params3] at ht
  have hall : ∀ x ∈ [22], Tryz.prog.wantsStandIn x = false := by
    intro x hx; simp only [List.mem_cons, List.mem_nil_iff, or_false] at hx; rcases hx with rfl <;> kernel_rfl
  exact hall t (by simpa using Array.mem_of_getElem? ht)
theorem card : Rows.AccessPlaysUptoCardSaid :=
  Claim7.holds_tied_plain_at .later [] _ _ _ _ said (fun _ h => by cases h) (by kernel_rfl) (fun _ h => by cases h) accessPlaysUpto_row_tie rfl ⟨rfl, rfl⟩ (by kernel_rfl) rfl plain (by kernel_rfl)
end Go.Proofs.YtphddbijdfmpjaaGreatDoor.accessPlays
namespace Go.Proofs.YtphddbijdfmpjaaGreatDoor
theorem accessPlays_holds : Rows.AccessPlaysUptoCardSaid := accessPlays.card
end Go.Proofs.YtphddbijdfmpjaaGreatDoor
