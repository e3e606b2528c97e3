/- What the statement AccessOfManyUptoCardSaid rests on, part 5 of 5: walks and plain laws; what of the printer's words it leans on. -/
import Derived.Test.YtphddbijdfmpjaaDoorRows
import Derived.Test.YtphddbijdfmpjaaDoorCards
import Derived.Test.YtphddbijdfmpjaaDoorTie
import Derived.Test.YtphddbijdfmpjaaDoorMAO3
import Derived.Test.YtphddbijdfmpjaaDoorMAO4
import Derived.LaidSub
import Derived.Lib.LaidTab
import Derived.ChangeSame
import Derived.WalkKit
import Derived.ProofKit
import Derived.OpenShut
import Derived.ShutString
import Derived.ChangeOld
import Derived.Below
import Derived.SizedLaws
import Derived.Deep.DeepHandedRow
import Derived.LaidMore
namespace Go.Proofs.YtphddbijdfmpjaaDoor.Q
open Go.RowKit Go.MapRaw Go.Proofs.YtphddbijdfmpjaaDoorW.PrintWords Go.Proofs.YtphddbijdfmpjaaDoorW.PrintLast Go.Proofs.YtphddbijdfmpjaaDoor.Wr
set_option linter.unusedVariables false
set_option linter.unusedSimpArgs false
set_option maxRecDepth 100000 in
set_option maxHeartbeats 16000000 in
theorem rset_ok (w0 w : World) (r base : Nat) (v : Value) (L : List Bnd) (b : Bnd) (hT : RT w r base v L) (hB0 : Below base w0 w) (hrb : base ≤ r) (hbw : base ≤ w0.heap.size) (hbs : b.path.size ≤ 1048576) (hLs : ∀ x ∈ L, x.path.size ≤ 1048576) (hn : formedB b = true → keyB b ∉ L.map keyB) (hL : L.length ≤ 1048576) :
    Calls Tryd.prog 37 #[.pointer (some ⟨r, 0, none⟩), eV b] w fun e w' => e = .returned (.int .i64 (rSetE L b)) ∧ (∃ v', RT w' r base v' (if rSetE L b = 0 then insF b false L else L)) ∧ Below base w0 w' := by
  have hu79 := Tryd.underlying79
  have hu27 := Tryd.underlying27
  obtain ⟨A, c, rfl⟩ := Kd.R_slice hT.row
  have VB := Lib.hid (fun w' => rvalid_ok b w' hbs)
  obtain ⟨bp, bn, bs, bv⟩ := b
  have HBS := Lib.hid hbs
  have HLS := Lib.hid hLs
  have HLL := Lib.hid hL
  have HNN := Lib.hid hn
  have HRB := Lib.hid hrb
  have HBW := Lib.hid (Nat.le_trans hbw hB0.size)
  have HB0 := Lib.hid hB0
  obtain ⟨res, hres⟩ : ∃ res, res = rSetE L ⟨bp, bn, bs, bv⟩ := ⟨_, rfl⟩
  obtain ⟨Lr, hLr⟩ : ∃ Lr, Lr = if rSetE L ⟨bp, bn, bs, bv⟩ = 0 then insF ⟨bp, bn, bs, bv⟩ false L else L := ⟨_, rfl⟩
  rw [← hLr, ← hres]
  have HRES := Lib.hid hres
  have HLR := Lib.hid hLr
  clear hres hLr hbw
  unfold eV at VB ⊢
  have hal := (Below.refl w.heap.size w).alloc (Nat.le_refl _) (.cells #[.string bp, .string bn, .string bs, .int .i64 bv] 27)
  have T1 := Aside0.mk (hT.below hal)
  have B1 := Aside0.mk hal
  have P1 := Aside0.mk (blk_new w (.cells #[.string bp, .string bn, .string bs, .int .i64 bv] 27))
  have HRW := Lib.hid hT.lt
  clear hT hbs hLs hL hn hal hB0 hrb
  go_enter Tryd.func37, Tryd.ntmps37
  go_upto_region 1 with fail
  obtain ⟨pp, hpp⟩ : ∃ pp, pp = w.heap.size := ⟨_, rfl⟩
  rw [← hpp] at P1 ⊢
  clear hpp
  generalize w.alloc _ = w1 at T1 B1 P1 ⊢
  have hq0 := (blk_cell P1.out 0).trans rfl
  have hq1 := (blk_cell P1.out 1).trans rfl
  have hq2 := (blk_cell P1.out 2).trans rfl
  have hq3 := (blk_cell P1.out 3).trans rfl
  by_cases hf : formedB ⟨bp, bn, bs, bv⟩ = true
  rotate_left
  · have HE := Lib.hid (show rSetE L ⟨bp, bn, bs, bv⟩ = 130 by unfold rSetE; rw [if_neg hf])
    have VB2 := Lib.hid (fun w' => (VB.out w').mono (fun e w'' h => show e = .returned (.int .i64 130) ∧ Below w'.heap.size w' w'' from ⟨by rw [h.1, if_neg hf], h.2⟩))
    clear VB hf
    go_wp2_with (go_at_call 35; refine (VB2.out w1).mono ?_; rintro e w2 ⟨rfl, hb⟩; have T2 := Aside0.mk (T1.out.below hb); have B2 := Aside0.mk (B1.out.trans (below_lower hb B1.out.size)); clear hb)
    go_ret
    refine ⟨by rw [HRES.out, HE.out] <;> rfl, ⟨.slice A L.length c, ?_⟩, HB0.out.trans (below_lower B2.out HBW.out)⟩
    rw [HLR.out, HE.out, if_neg (by decide)]
    exact T2.out
  have VB2 := Lib.hid (fun w' => (VB.out w').mono (fun e w'' h => show e = .returned (.int .i64 0) ∧ Below w'.heap.size w' w'' from ⟨by rw [h.1, if_pos hf], h.2⟩))
  have HF := Lib.hid hf
  have HE := Lib.hid (show rSetE L ⟨bp, bn, bs, bv⟩ = if 16 ≤ cntB bp L then 194 else 0 by unfold rSetE; rw [if_pos hf])
  have HIX := Lib.hid (show idxB bp bn 0 L < 0 by
    rcases Int.lt_or_le (idxB bp bn 0 L) 0 with h | h
    · exact h
    · exact absurd ((idxB_iff bp bn L 0).1 h) (HNN.out hf))
  clear VB hf HNN
  go_upto_region 4 with (go_at_call 35; refine (VB2.out w1).mono ?_; rintro e w2 ⟨rfl, hb⟩; have T2 := Aside0.mk (T1.out.below hb); have B2 := Aside0.mk (B1.out.trans (below_lower hb B1.out.size)); have P2 := Aside0.mk (blk_below P1.out hb); clear hb)
  clear VB2 T1 B1 P1 hq0 hq1 hq2 hq3
  have hq0 := (blk_cell P2.out 0).trans rfl
  have hq1 := (blk_cell P2.out 1).trans rfl
  have hq2 := (blk_cell P2.out 2).trans rfl
  have hq3 := (blk_cell P2.out 3).trans rfl
  have AT := Lib.hid (rat_ok w2 r base (.slice A L.length c) L bp bn T2.out (by have := HLL.out; omega))
  obtain ⟨ix, hix⟩ : ∃ ix, ix = idxB bp bn 0 L := ⟨_, rfl⟩
  rw [← hix] at AT HIX
  clear hix
  have d0 : decide (ix ≥ 0) = false := decide_eq_false (by have := HIX.out; omega)
  have d0b : decide (0 ≤ ix) = false := decide_eq_false (by have := HIX.out; omega)
  go_upto_region 12 with (go_at_call 36; refine AT.out.mono ?_; rintro e wx ⟨rfl, hw⟩; have hw2 := hw.symm; clear hw; subst hw2)
  clear AT HIX d0 d0b hq0 hq1 hq2 hq3
  go_loopg [7, 8, 9, 10] L.length (fun g v7 v8 v9 v10 wr => ∃ (i n : Nat) (done : Bool) (out : List Bnd), v7 = .int .i64 (n : Int) ∧ v9 = .bool done ∧ v10 = .int .i64 (i : Int) ∧ Aside0 (i + g = L.length) ∧ Aside0 (n = cntB bp (L.take i)) ∧ Aside0 (out ++ insF ⟨bp, bn, bs, bv⟩ done (L.drop i) = insF ⟨bp, bn, bs, bv⟩ false L) ∧ Aside0 (out.length ≤ i + cond done 1 0) ∧ Aside0 (Kd.R k27 27 wr w2.heap.size (fun _ => True) v8 out) ∧ Aside0 (Below w2.heap.size w2 wr))
  case atStart => exact ⟨0, 0, false, [], rfl, rfl, rfl, ⟨by omega⟩, ⟨rfl⟩, ⟨by rw [List.drop_zero]; rfl⟩, ⟨by simp⟩, ⟨Kd.R_nil _ _ _ _ _⟩, ⟨Below.refl _ _⟩⟩
  case round =>
    obtain ⟨i, n, done, out, rfl, rfl, rfl, HI, HN, HO, HOL, HR, HB⟩ := hrel
    have hrc := (blk_cell (blk_below T2.out.blk HB.out) 0).trans rfl
    have P3 := Aside0.mk (blk_below P2.out HB.out)
    have hq0 := (blk_cell P3.out 0).trans rfl
    have hq1 := (blk_cell P3.out 1).trans rfl
    have hq2 := (blk_cell P3.out 2).trans rfl
    have hq3 := (blk_cell P3.out 3).trans rfl
    by_cases hi : i < L.length
    rotate_left
    · have q1 : decide ((i : Int) < (L.length : Int)) = false := decide_eq_false (by omega)
      have q1n : decide (i < L.length) = false := decide_eq_false hi
      have HNL := Lib.hid (show n = cntB bp L by rw [HN.out, List.take_of_length_le (by omega)])
      have HOO := Lib.hid (show out ++ (if done = true then [] else [⟨bp, bn, bs, bv⟩]) = insF ⟨bp, bn, bs, bv⟩ false L by
        have h := HO.out
        rw [List.drop_of_length_le (by omega)] at h
        exact h)
      clear hi
      by_cases h16 : 16 ≤ n
      · have d2 : decide (16 ≤ (n : Int)) = true := decide_eq_true (by omega)
        have d2b : decide ((n : Int) ≥ 16) = true := decide_eq_true (by omega)
        have d2n : decide (16 ≤ n) = true := decide_eq_true h16
        have HE2 := Lib.hid (show rSetE L ⟨bp, bn, bs, bv⟩ = 194 by rw [HE.out, if_pos (by rw [← HNL.out]; exact h16)])
        clear h16
        go_wp2
        go_ret
        refine ⟨by rw [HRES.out, HE2.out] <;> rfl, ⟨.slice A L.length c, ?_⟩, HB0.out.trans (below_lower (B2.out.trans (below_lower HB.out B2.out.size)) HBW.out)⟩
        rw [HLR.out, HE2.out, if_neg (by decide)]
        exact T2.out.below HB.out
      have d2 : decide (16 ≤ (n : Int)) = false := decide_eq_false (by omega)
      have d2b : decide ((n : Int) ≥ 16) = false := decide_eq_false (by omega)
      have d2n : decide (16 ≤ n) = false := decide_eq_false h16
      have HE2 := Lib.hid (show rSetE L ⟨bp, bn, bs, bv⟩ = 0 by rw [HE.out, if_neg (by rw [← HNL.out]; exact h16)])
      clear h16
      cases done with
      | true =>
        obtain ⟨A8, c8, rfl⟩ := Kd.R_slice HR.out
        have hf0 := blk_frozen (blk_below T2.out.blk HB.out) 0
        go_wp2
        go_ret
        refine ⟨by rw [HRES.out, HE2.out] <;> rfl, ⟨.slice A8 out.length c8, ?_⟩, (HB0.out.trans (below_lower (B2.out.trans (below_lower HB.out B2.out.size)) HBW.out)).setCell (p := ⟨r, 0, none⟩) HRB.out _⟩
        rw [HLR.out, HE2.out, if_pos rfl, ← HOO.out, if_pos trivial, List.append_nil]
        have hrow : Kd.R k27 27 wr base (fun k => k ≠ r) (.slice A8 out.length c8) out := Kd.R_lower (Kd.R_mono (Kd.R_bound HR.out) (fun k hk => by have := hk.2.1; have := blk_lt T2.out.blk; omega)) (Nat.le_trans HBW.out B2.out.size)
        exact ⟨blk_put (blk_below T2.out.blk HB.out) 0 _ rfl, Kd.R_far hrow (fun k hk => hk) _⟩
      | false =>
        go_wp2_with ((with_reducible refine gate_builtin (b := .append) (xs := #[.tmp 89, .tmp 91]) rfl ?_); at_builtin; refine parkR_ ?_)
        refine Aside0.mk ?_
        refine Kd.R_append k27 (w0 := w2) w2.heap.size rfl (.tmp 89) (.tmp 91) 36 27 (.agg #[.string ⟨#[]⟩, .string ⟨#[]⟩, .string ⟨#[]⟩, .int .i64 0]) 56 rfl Tryd.underlying36 info27 rfl (by decide) (by omega) u8 out ⟨bp, bn, bs, bv⟩ [.string bp, .string bn, .string bs, .int .i64 bv] (fun _ => True) (fun _ => False) rfl rfl ?aP (fun _ hk => hk.elim) ?aF ?aO ?aB ?aS ?aL ?_
        (case aP => exact k27_mkM _ _ _ ⟨bp, bn, bs, bv⟩)
        (case aB => exact HB.out)
        (case aF => exact (fun _ _ => trivial))
        (case aO => exact HR.out)
        (case aS => exact HB.out.size)
        (case aL => have := HOL.out; simp only [cond_true, cond_false] at this; have := HI.out; have := HLL.out; omega)
        intro vn_w7 w7 ho hb2 hg2 hat2
        obtain ⟨A8, c8, rfl⟩ := Kd.R_slice ho
        have R7 := Aside0.mk ho
        have B7 := Aside0.mk hb2
        have T7 := Aside0.mk (T2.out.below hb2)
        clear ho hb2 hg2 hat2
        have hf0 := blk_frozen T7.out.blk 0
        have hrc7 := (blk_cell T7.out.blk 0).trans rfl
        go_wp2
        go_ret
        refine ⟨by rw [HRES.out, HE2.out] <;> rfl, ⟨.slice A8 (out.length + 1) c8, ?_⟩, (HB0.out.trans (below_lower (B2.out.trans (below_lower B7.out B2.out.size)) HBW.out)).setCell (p := ⟨r, 0, none⟩) HRB.out _⟩
        rw [HLR.out, HE2.out, if_pos rfl, ← HOO.out, if_neg (by decide)]
        have hrow0 := Kd.R_lower (Kd.R_mono (ok' := fun k => k ≠ r) (Kd.R_bound R7.out) (fun k hk => by have := hk.2.1; have := blk_lt T2.out.blk; omega)) (Nat.le_trans HBW.out B2.out.size)
        rw [List.length_append] at hrow0
        have hrow : Kd.R k27 27 w7 base (fun k => k ≠ r) (.slice A8 (out.length + 1) c8) (out ++ [⟨bp, bn, bs, bv⟩]) := hrow0
        exact ⟨blk_put T7.out.blk 0 _ rfl, Kd.R_far hrow (fun k hk => hk) _⟩
    have q1 : decide ((i : Int) < (L.length : Int)) = true := decide_eq_true (by omega)
    have q1n : decide (i < L.length) = true := decide_eq_true hi
    have p1 : (0 ≤ (i : Int)) = True := eq_true (by omega)
    have p2 : ((i : Int) < (L.length : Int)) = True := eq_true (by omega)
    obtain ⟨ad, hA, hx0, hx⟩ := bnd_at (Kd.C_below (Kd.R_reads' T2.out.row).2.2 HB.out) i hi
    cases hA
    have HDX := Lib.hid (List.drop_eq_getElem_cons hi)
    have HTK := Lib.hid (cntB_take_succ bp hi)
    have HXS := Lib.hid (HLS.out L[i] (List.getElem_mem hi))
    obtain ⟨g0, rfl⟩ : ∃ g0, gk = g0 + 1 := ⟨gk - 1, by have := HI.out; omega⟩
    have HLT := Lib.hid hi
    have HNI := Lib.hid (show n ≤ 1048576 by have h := cntB_len bp (L.take i); rw [← HN.out] at h; simp at h; have := HLL.out; omega)
    generalize L[i] = xx0 at hx0 hx HDX HTK HXS
    obtain ⟨xp, xn, xs, xv⟩ := xx0
    have hx1 := hx 1 (.string xn) (by decide) rfl
    have hx2 := hx 2 (.string xs) (by decide) rfl
    have hx3 := hx 3 (.int .i64 xv) (by decide) rfl
    clear hi hx
    have HIN0 := Lib.hid (show insF ⟨bp, bn, bs, bv⟩ done (L.drop i) = if (!done && aheadB ⟨bp, bn, bs, bv⟩ ⟨xp, xn, xs, xv⟩) = true then ⟨bp, bn, bs, bv⟩ :: ⟨xp, xn, xs, xv⟩ :: insF ⟨bp, bn, bs, bv⟩ true (L.drop (i + 1)) else ⟨xp, xn, xs, xv⟩ :: insF ⟨bp, bn, bs, bv⟩ done (L.drop (i + 1)) by rw [HDX.out]; rfl)
    go_upto_region 15 with fail
    have B5 := Aside0.mk (HB.out.alloc HB.out.size (.cells #[.string xp, .string xn, .string xs, .int .i64 xv] 27))
    have R5 := Aside0.mk (Kd.R_alloc HR.out (.cells #[.string xp, .string xn, .string xs, .int .i64 xv] 27))
    have X5 := Aside0.mk (blk_new wr (.cells #[.string xp, .string xn, .string xs, .int .i64 xv] 27))
    have HNE := Lib.hid (show some wr.heap.size ≠ Value.ownBlock u8 from fun e => by have := ((Kd.R_bound HR.out).1 wr.heap.size e.symm).2.2.1; omega)
    obtain ⟨xx, hxx⟩ : ∃ xx, xx = wr.heap.size := ⟨_, rfl⟩
    rw [← hxx] at X5 HNE ⊢
    clear hxx HR HB hx0 hx1 hx2 hx3 hq0 hq1 hq2 hq3 P3 hrc
    generalize wr.alloc _ = w5 at B5 R5 X5 ⊢
    have hx0 := (blk_cell X5.out 0).trans rfl
    have hx1 := (blk_cell X5.out 1).trans rfl
    have hx2 := (blk_cell X5.out 2).trans rfl
    have hx3 := (blk_cell X5.out 3).trans rfl
    have P5 := Aside0.mk (blk_below P2.out B5.out)
    have hq0 := (blk_cell P5.out 0).trans rfl
    have hq1 := (blk_cell P5.out 1).trans rfl
    have hq2 := (blk_cell P5.out 2).trans rfl
    have hq3 := (blk_cell P5.out 3).trans rfl
    by_cases hp : xp = bp
    · have e1 : (xp.toList == bp.toList) = true := by rw [hp]; simp
      have e2 : (bp.toList == xp.toList) = true := by rw [hp]; simp
      obtain ⟨n1, hn1⟩ : ∃ n1, n1 = n + 1 := ⟨_, rfl⟩
      have wn1 : wrap64 ((n : Int) + 1) = (n1 : Int) := by rw [hn1]; exact w64 n (by have := HNI.out; omega)
      have HN1 := Lib.hid (show n1 = cntB bp (L.take (i + 1)) by rw [hn1, HTK.out, if_pos hp, ← HN.out])
      have HA := Lib.hid (show aheadP bp xp = false by rw [hp]; unfold aheadP; rw [ordL.self]; rfl)
      have HAB := Lib.hid (show aheadB ⟨bp, bn, bs, bv⟩ ⟨xp, xn, xs, xv⟩ = Op.bytesLess bn.toList xn.toList by unfold aheadB; rw [HA.out]; simp [hp])
      have AH := Lib.hid (fun w' => (ahead_ok bp xp w' HBS.out HXS.out).mono (fun e w'' h => show e = .returned (.bool false) ∧ Below w'.heap.size w' w'' from ⟨by rw [h.1, HA.out], h.2⟩))
      clear hn1 hp
      cases done with
      | true =>
        have HINS := Lib.hid (show insF ⟨bp, bn, bs, bv⟩ true (L.drop i) = ⟨xp, xn, xs, xv⟩ :: insF ⟨bp, bn, bs, bv⟩ true (L.drop (i + 1)) by rw [HIN0.out, if_neg (by simp)])
        clear HIN0 AH HA HAB
        go_upto_region 17 with fail
        go_wp2_with ((with_reducible refine gate_builtin (b := .append) (xs := #[.tmp 81, .tmp 83]) rfl ?_); at_builtin; refine parkR_ ?_)
        refine Aside0.mk ?_
        refine Kd.R_append k27 (w0 := w2) w2.heap.size rfl (.tmp 81) (.tmp 83) 36 27 (.agg #[.string ⟨#[]⟩, .string ⟨#[]⟩, .string ⟨#[]⟩, .int .i64 0]) 56 rfl Tryd.underlying36 info27 rfl (by decide) (by omega) u8 out ⟨xp, xn, xs, xv⟩ [.string xp, .string xn, .string xs, .int .i64 xv] (fun _ => True) (fun _ => False) rfl rfl ?aP (fun _ hk => hk.elim) ?aF ?aO ?aB ?aS ?aL ?_
        (case aP => exact k27_mkM _ _ _ ⟨xp, xn, xs, xv⟩)
        (case aB => exact B5.out)
        (case aF => exact (fun _ _ => trivial))
        (case aO => exact R5.out)
        (case aS => exact B5.out.size)
        (case aL => have := HOL.out; simp only [cond_true, cond_false] at this; have := HLT.out; have := HLL.out; omega)
        intro vn_w8 w8 ho hb2 hg2 hat2
        have R8 := Aside0.mk ho
        have B8 := Aside0.mk hb2
        clear ho hb2 hg2 hat2
        go_wp2
        go_roundg g0
        case measure => omega
        case rel => exact ⟨i + 1, n1, true, out ++ [⟨xp, xn, xs, xv⟩], (by first | rfl | exact congrArg (Value.int .i64) wn1), rfl, congrArg (Value.int .i64) (by rw [w64 i (by have := HLT.out; have := HLL.out; omega)]), ⟨by have := HI.out; omega⟩, ⟨HN1.out⟩, ⟨by rw [← HO.out, HINS.out]; simp⟩, ⟨by have := HOL.out; simp only [cond_true, cond_false, List.length_append, List.length_cons, List.length_nil] at this ⊢; omega⟩, R8, B8⟩
      | false =>
        obtain ⟨q2, hq2⟩ : ∃ q2, q2 = Op.bytesLess bn.toList xn.toList := ⟨_, rfl⟩
        have HQ2 := Lib.hid hq2
        have hql := hq2.symm
        clear hq2
        cases q2 with
        | true =>
          have HINS := Lib.hid (show insF ⟨bp, bn, bs, bv⟩ false (L.drop i) = ⟨bp, bn, bs, bv⟩ :: ⟨xp, xn, xs, xv⟩ :: insF ⟨bp, bn, bs, bv⟩ true (L.drop (i + 1)) by rw [HIN0.out, if_pos (by rw [HAB.out, ← HQ2.out]; rfl)])
          clear HIN0 HA HAB HQ2
          go_upto_region 17 with fail
          go_wp2_with (first | (go_at_call 55; (with_reducible refine (AH.out w5).mono ?_); rintro e w6 ⟨rfl, hb⟩; have B6 := Aside0.mk (B5.out.trans (below_lower hb B5.out.size)); have R6 := Aside0.mk (Kd.R_below R5.out hb); have X6 := Aside0.mk (blk_below X5.out hb); have hxs0 := (blk_cell X6.out 0).trans rfl; have hxs1 := (blk_cell X6.out 1).trans rfl; have hxs2 := (blk_cell X6.out 2).trans rfl; have hxs3 := (blk_cell X6.out 3).trans rfl; have P6 := Aside0.mk (blk_below P2.out (below_lower B6.out (Nat.le_refl _))); have hps0 := (blk_cell P6.out 0).trans rfl; have hps1 := (blk_cell P6.out 1).trans rfl; have hps2 := (blk_cell P6.out 2).trans rfl; have hps3 := (blk_cell P6.out 3).trans rfl; clear hb) | ((with_reducible refine gate_builtin (b := .append) (xs := #[.tmp 77, .tmp 79]) rfl ?_); at_builtin; refine parkR_ ?_))
          refine Aside0.mk ?_
          refine Kd.R_append k27 (w0 := w2) w2.heap.size rfl (.tmp 77) (.tmp 79) 36 27 (.agg #[.string ⟨#[]⟩, .string ⟨#[]⟩, .string ⟨#[]⟩, .int .i64 0]) 56 rfl Tryd.underlying36 info27 rfl (by decide) (by omega) u8 out ⟨bp, bn, bs, bv⟩ [.string bp, .string bn, .string bs, .int .i64 bv] (fun _ => True) (fun _ => False) rfl rfl ?aP (fun _ hk => hk.elim) ?aF ?aO ?aB ?aS ?aL ?_
          (case aP => exact k27_mkM _ _ _ ⟨bp, bn, bs, bv⟩)
          (case aB => exact B6.out)
          (case aF => exact (fun _ _ => trivial))
          (case aO => exact R6.out)
          (case aS => exact B6.out.size)
          (case aL => have := HOL.out; simp only [cond_true, cond_false] at this; have := HLT.out; have := HLL.out; omega)
          intro vn_w7 w7 ho hb2 hg2 hat2
          have R7 := Aside0.mk ho
          have B7 := Aside0.mk hb2
          have X7 := Aside0.mk ((hg2.block xx (blk_lt X6.out) HNE.out).trans X6.out)
          have hxt0 := (blk_cell X7.out 0).trans rfl
          have hxt1 := (blk_cell X7.out 1).trans rfl
          have hxt2 := (blk_cell X7.out 2).trans rfl
          have hxt3 := (blk_cell X7.out 3).trans rfl
          clear ho hb2 hg2 hat2
          go_wp2_with ((with_reducible refine gate_builtin (b := .append) (xs := #[.tmp 81, .tmp 83]) rfl ?_); at_builtin; refine parkR_ ?_)
          refine Aside0.mk ?_
          refine Kd.R_append k27 (w0 := w2) w2.heap.size rfl (.tmp 81) (.tmp 83) 36 27 (.agg #[.string ⟨#[]⟩, .string ⟨#[]⟩, .string ⟨#[]⟩, .int .i64 0]) 56 rfl Tryd.underlying36 info27 rfl (by decide) (by omega) vn_w7 (out ++ [⟨bp, bn, bs, bv⟩]) ⟨xp, xn, xs, xv⟩ [.string xp, .string xn, .string xs, .int .i64 xv] (fun _ => True) (fun _ => False) rfl rfl ?aP (fun _ hk => hk.elim) ?aF ?aO ?aB ?aS ?aL ?_
          (case aP => exact k27_mkM _ _ _ ⟨xp, xn, xs, xv⟩)
          (case aB => exact B7.out)
          (case aF => exact (fun _ _ => trivial))
          (case aO => exact R7.out)
          (case aS => exact B7.out.size)
          (case aL => have := HOL.out; simp only [cond_true, cond_false] at this; have := HLT.out; have := HLL.out; simp only [List.length_append, List.length_cons, List.length_nil]; omega)
          intro vn_w8 w8 ho hb2 hg2 hat2
          have R8 := Aside0.mk ho
          have B8 := Aside0.mk hb2
          clear ho hb2 hg2 hat2
          go_wp2
          go_roundg g0
          case measure => omega
          case rel => exact ⟨i + 1, n1, true, (out ++ [⟨bp, bn, bs, bv⟩]) ++ [⟨xp, xn, xs, xv⟩], (by first | rfl | exact congrArg (Value.int .i64) wn1), rfl, congrArg (Value.int .i64) (by rw [w64 i (by have := HLT.out; have := HLL.out; omega)]), ⟨by have := HI.out; omega⟩, ⟨HN1.out⟩, ⟨by rw [← HO.out, HINS.out]; simp⟩, ⟨by have := HOL.out; simp only [cond_true, cond_false, List.length_append, List.length_cons, List.length_nil] at this ⊢; omega⟩, R8, B8⟩
        | false =>
          have HINS := Lib.hid (show insF ⟨bp, bn, bs, bv⟩ false (L.drop i) = ⟨xp, xn, xs, xv⟩ :: insF ⟨bp, bn, bs, bv⟩ false (L.drop (i + 1)) by rw [HIN0.out, if_neg (by rw [HAB.out, ← HQ2.out]; decide)])
          clear HIN0 HA HAB HQ2
          go_upto_region 17 with fail
          go_wp2_with (first | (go_at_call 55; (with_reducible refine (AH.out w5).mono ?_); rintro e w6 ⟨rfl, hb⟩; have B6 := Aside0.mk (B5.out.trans (below_lower hb B5.out.size)); have R6 := Aside0.mk (Kd.R_below R5.out hb); have X6 := Aside0.mk (blk_below X5.out hb); have hxs0 := (blk_cell X6.out 0).trans rfl; have hxs1 := (blk_cell X6.out 1).trans rfl; have hxs2 := (blk_cell X6.out 2).trans rfl; have hxs3 := (blk_cell X6.out 3).trans rfl; have P6 := Aside0.mk (blk_below P2.out (below_lower B6.out (Nat.le_refl _))); have hps0 := (blk_cell P6.out 0).trans rfl; have hps1 := (blk_cell P6.out 1).trans rfl; have hps2 := (blk_cell P6.out 2).trans rfl; have hps3 := (blk_cell P6.out 3).trans rfl; clear hb) | ((with_reducible refine gate_builtin (b := .append) (xs := #[.tmp 81, .tmp 83]) rfl ?_); at_builtin; refine parkR_ ?_))
          refine Aside0.mk ?_
          refine Kd.R_append k27 (w0 := w2) w2.heap.size rfl (.tmp 81) (.tmp 83) 36 27 (.agg #[.string ⟨#[]⟩, .string ⟨#[]⟩, .string ⟨#[]⟩, .int .i64 0]) 56 rfl Tryd.underlying36 info27 rfl (by decide) (by omega) u8 out ⟨xp, xn, xs, xv⟩ [.string xp, .string xn, .string xs, .int .i64 xv] (fun _ => True) (fun _ => False) rfl rfl ?aP (fun _ hk => hk.elim) ?aF ?aO ?aB ?aS ?aL ?_
          (case aP => exact k27_mkM _ _ _ ⟨xp, xn, xs, xv⟩)
          (case aB => exact B6.out)
          (case aF => exact (fun _ _ => trivial))
          (case aO => exact R6.out)
          (case aS => exact B6.out.size)
          (case aL => have := HOL.out; simp only [cond_true, cond_false] at this; have := HLT.out; have := HLL.out; omega)
          intro vn_w8 w8 ho hb2 hg2 hat2
          have R8 := Aside0.mk ho
          have B8 := Aside0.mk hb2
          clear ho hb2 hg2 hat2
          go_wp2
          go_roundg g0
          case measure => omega
          case rel => exact ⟨i + 1, n1, false, out ++ [⟨xp, xn, xs, xv⟩], (by first | rfl | exact congrArg (Value.int .i64) wn1), rfl, congrArg (Value.int .i64) (by rw [w64 i (by have := HLT.out; have := HLL.out; omega)]), ⟨by have := HI.out; omega⟩, ⟨HN1.out⟩, ⟨by rw [← HO.out, HINS.out]; simp⟩, ⟨by have := HOL.out; simp only [cond_true, cond_false, List.length_append, List.length_cons, List.length_nil] at this ⊢; omega⟩, R8, B8⟩
    · have e1 : (xp.toList == bp.toList) = false := by rw [toList_beq, Bool.eq_false_iff, Ne, ba_beq]; exact hp
      have e2 : (bp.toList == xp.toList) = false := by rw [toList_beq, Bool.eq_false_iff, Ne, ba_beq]; exact fun h => hp h.symm
      have HN1 := Lib.hid (show n = cntB bp (L.take (i + 1)) by rw [HTK.out, if_neg hp, ← HN.out, Nat.add_zero])
      have HAB := Lib.hid (show aheadB ⟨bp, bn, bs, bv⟩ ⟨xp, xn, xs, xv⟩ = aheadP bp xp by unfold aheadB; rw [show decide (bp = xp) = false from decide_eq_false (fun h => hp h.symm), Bool.false_and, Bool.or_false])
      obtain ⟨q2, hq2⟩ : ∃ q2, q2 = aheadP bp xp := ⟨_, rfl⟩
      rw [← hq2] at HAB
      have AH := Lib.hid (fun w' => (ahead_ok bp xp w' HBS.out HXS.out).mono (fun e w'' h => show e = .returned (.bool q2) ∧ Below w'.heap.size w' w'' from ⟨by rw [h.1, hq2], h.2⟩))
      clear hp hq2
      cases done with
      | true =>
        have HINS := Lib.hid (show insF ⟨bp, bn, bs, bv⟩ true (L.drop i) = ⟨xp, xn, xs, xv⟩ :: insF ⟨bp, bn, bs, bv⟩ true (L.drop (i + 1)) by rw [HIN0.out, if_neg (by simp)])
        clear HIN0 AH HAB
        go_upto_region 17 with fail
        go_wp2_with ((with_reducible refine gate_builtin (b := .append) (xs := #[.tmp 81, .tmp 83]) rfl ?_); at_builtin; refine parkR_ ?_)
        refine Aside0.mk ?_
        refine Kd.R_append k27 (w0 := w2) w2.heap.size rfl (.tmp 81) (.tmp 83) 36 27 (.agg #[.string ⟨#[]⟩, .string ⟨#[]⟩, .string ⟨#[]⟩, .int .i64 0]) 56 rfl Tryd.underlying36 info27 rfl (by decide) (by omega) u8 out ⟨xp, xn, xs, xv⟩ [.string xp, .string xn, .string xs, .int .i64 xv] (fun _ => True) (fun _ => False) rfl rfl ?aP (fun _ hk => hk.elim) ?aF ?aO ?aB ?aS ?aL ?_
        (case aP => exact k27_mkM _ _ _ ⟨xp, xn, xs, xv⟩)
        (case aB => exact B5.out)
        (case aF => exact (fun _ _ => trivial))
        (case aO => exact R5.out)
        (case aS => exact B5.out.size)
        (case aL => have := HOL.out; simp only [cond_true, cond_false] at this; have := HLT.out; have := HLL.out; omega)
        intro vn_w8 w8 ho hb2 hg2 hat2
        have R8 := Aside0.mk ho
        have B8 := Aside0.mk hb2
        clear ho hb2 hg2 hat2
        go_wp2
        go_roundg g0
        case measure => omega
        case rel => exact ⟨i + 1, n, true, out ++ [⟨xp, xn, xs, xv⟩], (by first | rfl | exact congrArg (Value.int .i64) wn1), rfl, congrArg (Value.int .i64) (by rw [w64 i (by have := HLT.out; have := HLL.out; omega)]), ⟨by have := HI.out; omega⟩, ⟨HN1.out⟩, ⟨by rw [← HO.out, HINS.out]; simp⟩, ⟨by have := HOL.out; simp only [cond_true, cond_false, List.length_append, List.length_cons, List.length_nil] at this ⊢; omega⟩, R8, B8⟩
      | false =>
        cases q2 with
        | true =>
          have HINS := Lib.hid (show insF ⟨bp, bn, bs, bv⟩ false (L.drop i) = ⟨bp, bn, bs, bv⟩ :: ⟨xp, xn, xs, xv⟩ :: insF ⟨bp, bn, bs, bv⟩ true (L.drop (i + 1)) by rw [HIN0.out, if_pos (by rw [HAB.out]; rfl)])
          clear HIN0 HAB
          go_upto_region 17 with fail
          go_wp2_with (first | (go_at_call 55; (with_reducible refine (AH.out w5).mono ?_); rintro e w6 ⟨rfl, hb⟩; have B6 := Aside0.mk (B5.out.trans (below_lower hb B5.out.size)); have R6 := Aside0.mk (Kd.R_below R5.out hb); have X6 := Aside0.mk (blk_below X5.out hb); have hxs0 := (blk_cell X6.out 0).trans rfl; have hxs1 := (blk_cell X6.out 1).trans rfl; have hxs2 := (blk_cell X6.out 2).trans rfl; have hxs3 := (blk_cell X6.out 3).trans rfl; have P6 := Aside0.mk (blk_below P2.out (below_lower B6.out (Nat.le_refl _))); have hps0 := (blk_cell P6.out 0).trans rfl; have hps1 := (blk_cell P6.out 1).trans rfl; have hps2 := (blk_cell P6.out 2).trans rfl; have hps3 := (blk_cell P6.out 3).trans rfl; clear hb) | ((with_reducible refine gate_builtin (b := .append) (xs := #[.tmp 77, .tmp 79]) rfl ?_); at_builtin; refine parkR_ ?_))
          refine Aside0.mk ?_
          refine Kd.R_append k27 (w0 := w2) w2.heap.size rfl (.tmp 77) (.tmp 79) 36 27 (.agg #[.string ⟨#[]⟩, .string ⟨#[]⟩, .string ⟨#[]⟩, .int .i64 0]) 56 rfl Tryd.underlying36 info27 rfl (by decide) (by omega) u8 out ⟨bp, bn, bs, bv⟩ [.string bp, .string bn, .string bs, .int .i64 bv] (fun _ => True) (fun _ => False) rfl rfl ?aP (fun _ hk => hk.elim) ?aF ?aO ?aB ?aS ?aL ?_
          (case aP => exact k27_mkM _ _ _ ⟨bp, bn, bs, bv⟩)
          (case aB => exact B6.out)
          (case aF => exact (fun _ _ => trivial))
          (case aO => exact R6.out)
          (case aS => exact B6.out.size)
          (case aL => have := HOL.out; simp only [cond_true, cond_false] at this; have := HLT.out; have := HLL.out; omega)
          intro vn_w7 w7 ho hb2 hg2 hat2
          have R7 := Aside0.mk ho
          have B7 := Aside0.mk hb2
          have X7 := Aside0.mk ((hg2.block xx (blk_lt X6.out) HNE.out).trans X6.out)
          have hxt0 := (blk_cell X7.out 0).trans rfl
          have hxt1 := (blk_cell X7.out 1).trans rfl
          have hxt2 := (blk_cell X7.out 2).trans rfl
          have hxt3 := (blk_cell X7.out 3).trans rfl
          clear ho hb2 hg2 hat2
          go_wp2_with ((with_reducible refine gate_builtin (b := .append) (xs := #[.tmp 81, .tmp 83]) rfl ?_); at_builtin; refine parkR_ ?_)
          refine Aside0.mk ?_
          refine Kd.R_append k27 (w0 := w2) w2.heap.size rfl (.tmp 81) (.tmp 83) 36 27 (.agg #[.string ⟨#[]⟩, .string ⟨#[]⟩, .string ⟨#[]⟩, .int .i64 0]) 56 rfl Tryd.underlying36 info27 rfl (by decide) (by omega) vn_w7 (out ++ [⟨bp, bn, bs, bv⟩]) ⟨xp, xn, xs, xv⟩ [.string xp, .string xn, .string xs, .int .i64 xv] (fun _ => True) (fun _ => False) rfl rfl ?aP (fun _ hk => hk.elim) ?aF ?aO ?aB ?aS ?aL ?_
          (case aP => exact k27_mkM _ _ _ ⟨xp, xn, xs, xv⟩)
          (case aB => exact B7.out)
          (case aF => exact (fun _ _ => trivial))
          (case aO => exact R7.out)
          (case aS => exact B7.out.size)
          (case aL => have := HOL.out; simp only [cond_true, cond_false] at this; have := HLT.out; have := HLL.out; simp only [List.length_append, List.length_cons, List.length_nil]; omega)
          intro vn_w8 w8 ho hb2 hg2 hat2
          have R8 := Aside0.mk ho
          have B8 := Aside0.mk hb2
          clear ho hb2 hg2 hat2
          go_wp2
          go_roundg g0
          case measure => omega
          case rel => exact ⟨i + 1, n, true, (out ++ [⟨bp, bn, bs, bv⟩]) ++ [⟨xp, xn, xs, xv⟩], (by first | rfl | exact congrArg (Value.int .i64) wn1), rfl, congrArg (Value.int .i64) (by rw [w64 i (by have := HLT.out; have := HLL.out; omega)]), ⟨by have := HI.out; omega⟩, ⟨HN1.out⟩, ⟨by rw [← HO.out, HINS.out]; simp⟩, ⟨by have := HOL.out; simp only [cond_true, cond_false, List.length_append, List.length_cons, List.length_nil] at this ⊢; omega⟩, R8, B8⟩
        | false =>
          have HINS := Lib.hid (show insF ⟨bp, bn, bs, bv⟩ false (L.drop i) = ⟨xp, xn, xs, xv⟩ :: insF ⟨bp, bn, bs, bv⟩ false (L.drop (i + 1)) by rw [HIN0.out, if_neg (by rw [HAB.out]; decide)])
          clear HIN0 HAB
          go_upto_region 17 with fail
          go_wp2_with (first | (go_at_call 55; (with_reducible refine (AH.out w5).mono ?_); rintro e w6 ⟨rfl, hb⟩; have B6 := Aside0.mk (B5.out.trans (below_lower hb B5.out.size)); have R6 := Aside0.mk (Kd.R_below R5.out hb); have X6 := Aside0.mk (blk_below X5.out hb); have hxs0 := (blk_cell X6.out 0).trans rfl; have hxs1 := (blk_cell X6.out 1).trans rfl; have hxs2 := (blk_cell X6.out 2).trans rfl; have hxs3 := (blk_cell X6.out 3).trans rfl; have P6 := Aside0.mk (blk_below P2.out (below_lower B6.out (Nat.le_refl _))); have hps0 := (blk_cell P6.out 0).trans rfl; have hps1 := (blk_cell P6.out 1).trans rfl; have hps2 := (blk_cell P6.out 2).trans rfl; have hps3 := (blk_cell P6.out 3).trans rfl; clear hb) | ((with_reducible refine gate_builtin (b := .append) (xs := #[.tmp 81, .tmp 83]) rfl ?_); at_builtin; refine parkR_ ?_))
          refine Aside0.mk ?_
          refine Kd.R_append k27 (w0 := w2) w2.heap.size rfl (.tmp 81) (.tmp 83) 36 27 (.agg #[.string ⟨#[]⟩, .string ⟨#[]⟩, .string ⟨#[]⟩, .int .i64 0]) 56 rfl Tryd.underlying36 info27 rfl (by decide) (by omega) u8 out ⟨xp, xn, xs, xv⟩ [.string xp, .string xn, .string xs, .int .i64 xv] (fun _ => True) (fun _ => False) rfl rfl ?aP (fun _ hk => hk.elim) ?aF ?aO ?aB ?aS ?aL ?_
          (case aP => exact k27_mkM _ _ _ ⟨xp, xn, xs, xv⟩)
          (case aB => exact B6.out)
          (case aF => exact (fun _ _ => trivial))
          (case aO => exact R6.out)
          (case aS => exact B6.out.size)
          (case aL => have := HOL.out; simp only [cond_true, cond_false] at this; have := HLT.out; have := HLL.out; omega)
          intro vn_w8 w8 ho hb2 hg2 hat2
          have R8 := Aside0.mk ho
          have B8 := Aside0.mk hb2
          clear ho hb2 hg2 hat2
          go_wp2
          go_roundg g0
          case measure => omega
          case rel => exact ⟨i + 1, n, false, out ++ [⟨xp, xn, xs, xv⟩], (by first | rfl | exact congrArg (Value.int .i64) wn1), rfl, congrArg (Value.int .i64) (by rw [w64 i (by have := HLT.out; have := HLL.out; omega)]), ⟨by have := HI.out; omega⟩, ⟨HN1.out⟩, ⟨by rw [← HO.out, HINS.out]; simp⟩, ⟨by have := HOL.out; simp only [cond_true, cond_false, List.length_append, List.length_cons, List.length_nil] at this ⊢; omega⟩, R8, B8⟩
end Go.Proofs.YtphddbijdfmpjaaDoor.Q
namespace Go.Proofs.YtphddbijdfmpjaaDoor.Q
open Go.RowKit Go.MapRaw Go.Proofs.YtphddbijdfmpjaaDoorW.PrintWords Go.Proofs.YtphddbijdfmpjaaDoorW.PrintLast Go.Proofs.YtphddbijdfmpjaaDoor.Wr
set_option linter.unusedVariables false
set_option linter.unusedSimpArgs false
def ROfSays (w : World) (r : Option (List Bnd) × Int) (e : Ending) (w' : World) : Prop :=
  ∃ v, e = .returned (.tuple #[v, .int .i64 r.2]) ∧ ((r.1 = none ∧ v = .pointer none) ∨ ∃ L t u, r.1 = some L ∧ v = .pointer (some ⟨t, 0, none⟩) ∧ RT w' t w.heap.size u L ∧ L.length ≤ 1048576) ∧ Below w.heap.size w w'
set_option maxRecDepth 100000 in
set_option maxHeartbeats 16000000 in
theorem rof_ok (A : Option Addr) (c : Nat) (l : List Bnd) (w : World) (hr : k27.C w A l.length l) (hl : l.length ≤ 1048576) (hs : ∀ x ∈ l, x.path.size ≤ 1048576) :
    Calls Tryd.prog 15 #[.slice A l.length c] w fun e w' => ROfSays w (rOf [] l) e w' := by
  have hu27 := Tryd.underlying27
  obtain ⟨res, hres⟩ : ∃ res, res = rOf [] l := ⟨_, rfl⟩
  rw [← hres]
  have HRES := Lib.hid hres
  have HR := Aside0.mk hr
  have NEW := Lib.hid (rnew_ok w)
  have HLL := Lib.hid hl
  have HSS := Lib.hid hs
  clear hr hl hs hres
  go_enter Tryd.func15, Tryd.ntmps15
  go_upto_region 3 with (go_at_call 34; refine NEW.out.mono ?_; rintro e w1 ⟨r, rfl, hT, ht, hb1⟩; have B1 := Aside0.mk hb1; have T1 := Aside0.mk hT; have HRB := Lib.hid ht; clear hT ht hb1)
  clear NEW
  go_loopg [5] l.length (fun g v5 wr => ∃ (i : Nat) (L : List Bnd) (u : Value), v5 = .int .i64 (i : Int) ∧ Aside0 (i + g = l.length) ∧ Aside0 (L.length ≤ i) ∧ Aside0 (rOf L (l.drop i) = res) ∧ Aside0 (RT wr r w.heap.size u L) ∧ Aside0 (∀ x ∈ L, x.path.size ≤ 1048576) ∧ Aside0 (Below w.heap.size w wr))
  case atStart => exact ⟨0, [], .slice none 0 0, rfl, ⟨by omega⟩, ⟨by simp⟩, ⟨by rw [List.drop_zero]; exact HRES.out.symm⟩, T1, ⟨fun x hx => absurd hx (by simp)⟩, B1⟩
  case round =>
    clear T1 B1
    obtain ⟨i, L, u, rfl, HI, HLN, HO, HT, HLS, HB⟩ := hrel
    by_cases hi : i < l.length
    rotate_left
    · have q1 : decide ((i : Int) < (l.length : Int)) = false := decide_eq_false (by omega)
      have q1n : decide (i < l.length) = false := decide_eq_false hi
      have HD := Lib.hid (show l.drop i = [] from List.drop_of_length_le (by omega))
      have HLN2 := Lib.hid (show L.length ≤ 1048576 by have := HLN.out; have := HI.out; have := HLL.out; omega)
      clear hi
      go_wp2
      go_ret2
      have hres : res = (some L, 0) := by rw [← HO.out, HD.out]; rfl
      exact ⟨_, by rw [hres] <;> rfl, .inr ⟨L, r, u, by rw [hres], rfl, HT.out, HLN2.out⟩, HB.out⟩
    have q1 : decide ((i : Int) < (l.length : Int)) = true := decide_eq_true (by omega)
    have q1n : decide (i < l.length) = true := decide_eq_true hi
    have p1 : (0 ≤ (i : Int)) = True := eq_true (by omega)
    have p2 : ((i : Int) < (l.length : Int)) = True := eq_true (by omega)
    obtain ⟨ad, hA, hxa, hxb⟩ := bnd_at HR.out i hi
    clear hxa hxb
    cases hA
    have CELL := Lib.hid (show ∀ w', Below w.heap.size w w' → w'.cell? (ad.add (i * 4)) = some (.string l[i].path) ∧ w'.cell? ⟨(ad.add (i * 4)).block, (ad.add (i * 4)).off + 1, none⟩ = some (.string l[i].name) ∧ w'.cell? ⟨(ad.add (i * 4)).block, (ad.add (i * 4)).off + 2, none⟩ = some (.string l[i].subject) ∧ w'.cell? ⟨(ad.add (i * 4)).block, (ad.add (i * 4)).off + 3, none⟩ = some (.int .i64 l[i].verb) from fun w' hb => by
      obtain ⟨ae, hA, h0, hx⟩ := bnd_at (Kd.C_below HR.out hb) i hi
      cases hA
      exact ⟨h0, hx 1 _ (by decide) rfl, hx 2 _ (by decide) rfl, hx 3 _ (by decide) rfl⟩)
    have HDX := Lib.hid (List.drop_eq_getElem_cons hi)
    have HXS := Lib.hid (HSS.out l[i] (List.getElem_mem hi))
    have VB0 := Lib.hid (fun w' => rvalid_ok l[i] w' HXS.out)
    obtain ⟨g0, rfl⟩ : ∃ g0, gk = g0 + 1 := ⟨gk - 1, by have := HI.out; omega⟩
    have HI1 := Lib.hid (show wrap64 ((i : Int) + 1) = ((i + 1 : Nat) : Int) from w64 i (by have := HLL.out; omega))
    have HLT0 := Lib.hid (show i + 1 ≤ l.length from hi)
    generalize l[i] = x at CELL HDX HXS VB0
    obtain ⟨xp, xn, xs, xv⟩ := x
    clear hi
    have HST := Lib.hid (show rOf L (l.drop i) = if formedB ⟨xp, xn, xs, xv⟩ = true ∧ keyB ⟨xp, xn, xs, xv⟩ ∈ L.map keyB then (none, 190) else if rSetE L ⟨xp, xn, xs, xv⟩ = 0 then rOf (insF ⟨xp, xn, xs, xv⟩ false L) (l.drop (i + 1)) else (none, rSetE L ⟨xp, xn, xs, xv⟩) by rw [HDX.out]; rfl)
    unfold eV at VB0
    by_cases hf : formedB ⟨xp, xn, xs, xv⟩ = true
    rotate_left
    · have VB := Lib.hid (fun w' => (VB0.out w').mono (fun e w'' h => show e = .returned (.int .i64 130) ∧ Below w'.heap.size w' w'' from ⟨by rw [h.1, if_neg hf], h.2⟩))
      have HKN := Lib.hid (show formedB ⟨xp, xn, xs, xv⟩ = true → keyB ⟨xp, xn, xs, xv⟩ ∉ L.map keyB from fun h => absurd h hf)
      have HE := Lib.hid (show rSetE L ⟨xp, xn, xs, xv⟩ = 130 by unfold rSetE; rw [if_neg hf])
      have HRS := Lib.hid (show res = (none, 130) by rw [← HO.out, HST.out, if_neg (fun h => hf h.1), HE.out, if_neg (by decide)])
      clear VB0 hf
      go_upto_region 5 with fail
      refine start_ (n := 21) (S := fun w' => w'.cell? (ad.add (i * 4)) = some (.string xp) ∧ w'.cell? ⟨(ad.add (i * 4)).block, (ad.add (i * 4)).off + 1, none⟩ = some (.string xn) ∧ w'.cell? ⟨(ad.add (i * 4)).block, (ad.add (i * 4)).off + 2, none⟩ = some (.string xs) ∧ w'.cell? ⟨(ad.add (i * 4)).block, (ad.add (i * 4)).off + 3, none⟩ = some (.int .i64 xv)) (ds := []) #[false, false, false, false, false, false, false, false, false, false, false, false, false, false, false, false, false, false, false, false, false] (by kernel_rfl) rfl rfl (CELL.out _ (below_drew1 HB.out)) (fun hHeld => ?_)
      have HTr := Aside0.mk (HT.out.below (drew_below wr))
      have HBr := Aside0.mk (below_drew1 HB.out)
      clear HB HT
      have HB := HBr
      have HT := HTr
      clear HBr HTr
      generalize World.drew _ = wd at HB HT hHeld ⊢
      refine pure_ (i := 0) (N := some 14) (v := ?_) (a' := ?_) #[true, false, false, false, false, false, false, false, false, false, false, false, false, false, false, false, false, false, false, false, false] rfl rfl (by kernel_rfl) (fun _ _ _ h => h) (Or.inl ⟨by rfl, ?_⟩) ?_ ?_
      rotate_left
      · intro w'
        go_simp
        with_reducible rfl
      rotate_left
      · simp only [Act.put, List.setIfInBounds_toArray, List.set_cons_zero, List.set_cons_succ, i64_w, i32_w]
        rfl
      refine pure_ (i := 1) (N := some 15) (v := ?_) (a' := ?_) #[true, true, false, false, false, false, false, false, false, false, false, false, false, false, false, false, false, false, false, false, false] rfl rfl (by kernel_rfl) (fun _ _ _ h => h) (Or.inl ⟨by rfl, ?_⟩) ?_ ?_
      rotate_left
      · intro w'
        go_simp
        with_reducible rfl
      rotate_left
      · simp only [Act.put, List.setIfInBounds_toArray, List.set_cons_zero, List.set_cons_succ, i64_w, i32_w]
        rfl
      refine pure_ (i := 2) (N := some 16) (v := ?_) (a' := ?_) #[true, true, true, false, false, false, false, false, false, false, false, false, false, false, false, false, false, false, false, false, false] rfl rfl (by kernel_rfl) (fun _ _ _ h => h) (Or.inl ⟨by rfl, ?_⟩) ?_ ?_
      rotate_left
      · intro w'
        go_simp
        with_reducible rfl
      rotate_left
      · simp only [Act.put, List.setIfInBounds_toArray, List.set_cons_zero, List.set_cons_succ, i64_w, i32_w]
        rfl
      refine take_ (i := 3) (N := some 17) (v := ?_) (a' := ?_) #[true, true, true, true, false, false, false, false, false, false, false, false, false, false, false, false, false, false, false, false, false] rfl rfl (by kernel_rfl) (fun _ _ _ h => h) (Or.inl ⟨by rfl, ?_⟩) hHeld ?_ ?_
      rotate_left
      · rintro w' ⟨s0, s1, s2, s3⟩
        go_simp
        with_reducible rfl
      rotate_left
      · simp only [Act.put, List.setIfInBounds_toArray, List.set_cons_zero, List.set_cons_succ, i64_w, i32_w]
        rfl
      refine one_ (i := 4) (N := some 18) #[true, true, true, true, true, false, false, false, false, false, false, false, false, false, false, false, false, false, false, false, false] rfl rfl (by kernel_rfl) (by decide) (fun K hK => ?_)
      refine goes_ Tryd.func35 (by kernel_rfl) rfl #[.agg #[.string xp, .string xn, .string xs, .int .i64 xv]] (by rfl) rfl rfl (by (try simp only [List.map_toArray, List.map_cons, List.map_nil]); first | done | rfl) ?_
      with_reducible refine (VB.out wd).mono ?_
      rintro e wz ⟨rfl, hb⟩
      have HBr := Aside0.mk (HB.out.trans (below_lower hb HB.out.size))
      have HTr := Aside0.mk (HT.out.below hb)
      clear HB hb HT
      have HB := HBr
      have HT := HTr
      clear HBr HTr
      refine ⟨_, rfl, ?_⟩
      refine hK.out _ _ (CELL.out _ HB.out) (fun hHeld => ?_)
      clear hK K
      refine norm_ (a' := ?_) ?_ ?_
      rotate_left
      · show Act.put _ (some 18) _ = _
        simp only [Act.put, List.setIfInBounds_toArray, List.set_cons_zero, List.set_cons_succ, i64_w, i32_w]
        rfl
      refine pure_ (i := 5) (N := some 19) (v := ?_) (a' := ?_) #[true, true, true, true, true, true, false, false, false, false, false, false, false, false, false, false, false, false, false, false, false] rfl rfl (by kernel_rfl) (fun _ _ _ h => h) (Or.inl ⟨by rfl, ?_⟩) ?_ ?_
      rotate_left
      · intro w'
        go_simp
        with_reducible rfl
      rotate_left
      · simp only [Act.put, List.setIfInBounds_toArray, List.set_cons_zero, List.set_cons_succ, i64_w, i32_w]
        rfl
      refine pure_ (i := 6) (N := some 20) (v := ?_) (a' := ?_) #[true, true, true, true, true, true, true, false, false, false, false, false, false, false, false, false, false, false, false, false, false] rfl rfl (by kernel_rfl) (fun _ _ _ h => h) (Or.inl ⟨by rfl, ?_⟩) ?_ ?_
      rotate_left
      · intro w'
        go_simp
        with_reducible rfl
      rotate_left
      · simp only [Act.put, List.setIfInBounds_toArray, List.set_cons_zero, List.set_cons_succ, i64_w, i32_w]
        rfl
      refine pure_ (i := 7) (N := some 21) (v := undef) (a' := ?_) #[true, true, true, true, true, true, true, true, false, false, false, false, false, false, false, false, false, false, false, false, false] rfl rfl (by kernel_rfl) (fun _ _ _ h => h) (Or.inr ⟨by rfl, rfl⟩) ?_ ?_
      rotate_left
      · simp only [Act.put, List.setIfInBounds_toArray, List.set_cons_zero, List.set_cons_succ, i64_w, i32_w]
        rfl
      refine pure_ (i := 8) (N := some 22) (v := undef) (a' := ?_) #[true, true, true, true, true, true, true, true, true, false, false, false, false, false, false, false, false, false, false, false, false] rfl rfl (by kernel_rfl) (fun _ _ _ h => h) (Or.inr ⟨by rfl, rfl⟩) ?_ ?_
      rotate_left
      · simp only [Act.put, List.setIfInBounds_toArray, List.set_cons_zero, List.set_cons_succ, i64_w, i32_w]
        rfl
      refine pure_ (i := 9) (N := some 23) (v := undef) (a' := ?_) #[true, true, true, true, true, true, true, true, true, true, false, false, false, false, false, false, false, false, false, false, false] rfl rfl (by kernel_rfl) (fun _ _ _ h => h) (Or.inr ⟨by rfl, rfl⟩) ?_ ?_
      rotate_left
      · simp only [Act.put, List.setIfInBounds_toArray, List.set_cons_zero, List.set_cons_succ, i64_w, i32_w]
        rfl
      refine pure_ (i := 10) (N := some 24) (v := undef) (a' := ?_) #[true, true, true, true, true, true, true, true, true, true, true, false, false, false, false, false, false, false, false, false, false] rfl rfl (by kernel_rfl) (fun _ _ _ h => h) (Or.inr ⟨by rfl, rfl⟩) ?_ ?_
      rotate_left
      · simp only [Act.put, List.setIfInBounds_toArray, List.set_cons_zero, List.set_cons_succ, i64_w, i32_w]
        rfl
      refine pure_ (i := 11) (N := some 25) (v := undef) (a' := ?_) #[true, true, true, true, true, true, true, true, true, true, true, true, false, false, false, false, false, false, false, false, false] rfl rfl (by kernel_rfl) (fun _ _ _ h => h) (Or.inr ⟨by rfl, rfl⟩) ?_ ?_
      rotate_left
      · simp only [Act.put, List.setIfInBounds_toArray, List.set_cons_zero, List.set_cons_succ, i64_w, i32_w]
        rfl
      refine pure_ (i := 12) (N := some 26) (v := undef) (a' := ?_) #[true, true, true, true, true, true, true, true, true, true, true, true, true, false, false, false, false, false, false, false, false] rfl rfl (by kernel_rfl) (fun _ _ _ h => h) (Or.inr ⟨by rfl, rfl⟩) ?_ ?_
      rotate_left
      · simp only [Act.put, List.setIfInBounds_toArray, List.set_cons_zero, List.set_cons_succ, i64_w, i32_w]
        rfl
      refine pure_ (i := 13) (N := some 27) (v := undef) (a' := ?_) #[true, true, true, true, true, true, true, true, true, true, true, true, true, true, false, false, false, false, false, false, false] rfl rfl (by kernel_rfl) (fun _ _ _ h => h) (Or.inr ⟨by rfl, rfl⟩) ?_ ?_
      rotate_left
      · simp only [Act.put, List.setIfInBounds_toArray, List.set_cons_zero, List.set_cons_succ, i64_w, i32_w]
        rfl
      refine pure_ (i := 14) (N := some 28) (v := undef) (a' := ?_) #[true, true, true, true, true, true, true, true, true, true, true, true, true, true, true, false, false, false, false, false, false] rfl rfl (by kernel_rfl) (fun _ _ _ h => h) (Or.inr ⟨by rfl, rfl⟩) ?_ ?_
      rotate_left
      · simp only [Act.put, List.setIfInBounds_toArray, List.set_cons_zero, List.set_cons_succ, i64_w, i32_w]
        rfl
      refine pure_ (i := 15) (N := some 29) (v := undef) (a' := ?_) #[true, true, true, true, true, true, true, true, true, true, true, true, true, true, true, true, false, false, false, false, false] rfl rfl (by kernel_rfl) (fun _ _ _ h => h) (Or.inr ⟨by rfl, rfl⟩) ?_ ?_
      rotate_left
      · simp only [Act.put, List.setIfInBounds_toArray, List.set_cons_zero, List.set_cons_succ, i64_w, i32_w]
        rfl
      refine pure_ (i := 16) (N := some 30) (v := undef) (a' := ?_) #[true, true, true, true, true, true, true, true, true, true, true, true, true, true, true, true, true, false, false, false, false] rfl rfl (by kernel_rfl) (fun _ _ _ h => h) (Or.inr ⟨by rfl, rfl⟩) ?_ ?_
      rotate_left
      · simp only [Act.put, List.setIfInBounds_toArray, List.set_cons_zero, List.set_cons_succ, i64_w, i32_w]
        rfl
      refine pure_ (i := 17) (N := some 31) (v := undef) (a' := ?_) #[true, true, true, true, true, true, true, true, true, true, true, true, true, true, true, true, true, true, false, false, false] rfl rfl (by kernel_rfl) (fun _ _ _ h => h) (Or.inr ⟨by rfl, rfl⟩) ?_ ?_
      rotate_left
      · simp only [Act.put, List.setIfInBounds_toArray, List.set_cons_zero, List.set_cons_succ, i64_w, i32_w]
        rfl
      refine pure_ (i := 18) (N := some 32) (v := undef) (a' := ?_) #[true, true, true, true, true, true, true, true, true, true, true, true, true, true, true, true, true, true, true, false, false] rfl rfl (by kernel_rfl) (fun _ _ _ h => h) (Or.inr ⟨by rfl, rfl⟩) ?_ ?_
      rotate_left
      · simp only [Act.put, List.setIfInBounds_toArray, List.set_cons_zero, List.set_cons_succ, i64_w, i32_w]
        rfl
      refine pure_ (i := 19) (N := some 33) (v := undef) (a' := ?_) #[true, true, true, true, true, true, true, true, true, true, true, true, true, true, true, true, true, true, true, true, false] rfl rfl (by kernel_rfl) (fun _ _ _ h => h) (Or.inr ⟨by rfl, rfl⟩) ?_ ?_
      rotate_left
      · simp only [Act.put, List.setIfInBounds_toArray, List.set_cons_zero, List.set_cons_succ, i64_w, i32_w]
        rfl
      refine pure_ (i := 20) (N := some 34) (v := ?_) (a' := ?_) #[true, true, true, true, true, true, true, true, true, true, true, true, true, true, true, true, true, true, true, true, true] rfl rfl (by kernel_rfl) (fun _ _ _ h => h) (Or.inl ⟨by rfl, ?_⟩) ?_ ?_
      rotate_left
      · intro w'
        go_simp
        with_reducible rfl
      rotate_left
      · simp only [Act.put, List.setIfInBounds_toArray, List.set_cons_zero, List.set_cons_succ, i64_w, i32_w]
        rfl
      refine done_ (by kernel_rfl) ?_
      clear hHeld
      have hcs := CELL.out _ HB.out
      obtain ⟨hy0, hy1, hy2, hy3⟩ := hcs
      have ST := Lib.hid (rset_ok w wz r w.heap.size u L ⟨xp, xn, xs, xv⟩ HT.out HB.out HRB.out (Nat.le_refl _) HXS.out HLS.out HKN.out (by have := HLN.out; have := HLL.out; have := HLT0.out; omega))
      unfold eV at ST
      have ST2 := Lib.hid (ST.out.mono (fun e w'' h => show e = .returned (.int .i64 130) ∧ Below w.heap.size w w'' from ⟨by rw [h.1, HE.out], h.2.2⟩))
      clear ST
      go_wp2_with (go_at_call 37; refine ST2.out.mono ?_; rintro e w8 ⟨rfl, hb⟩; have B8 := Aside0.mk hb; clear hb)
      go_ret2
      exact ⟨_, by rw [HRS.out] <;> rfl, .inl ⟨by rw [HRS.out], rfl⟩, B8.out⟩
    have VB := Lib.hid (fun w' => (VB0.out w').mono (fun e w'' h => show e = .returned (.int .i64 0) ∧ Below w'.heap.size w' w'' from ⟨by rw [h.1, if_pos hf], h.2⟩))
    have HF := Lib.hid hf
    have AT := Lib.hid (fun w' hT => rat_ok w' r w.heap.size u L xp xn hT (by have := HLN.out; have := HLL.out; have := HLT0.out; omega))
    obtain ⟨ix, hix⟩ : ∃ ix, ix = idxB xp xn 0 L := ⟨_, rfl⟩
    rw [← hix] at AT
    have HIX := Lib.hid hix
    clear VB0 hf hix
    by_cases hk : 0 ≤ ix
    · have d0 : decide (ix ≥ 0) = true := decide_eq_true hk
      have d0b : decide (0 ≤ ix) = true := decide_eq_true hk
      have HRS := Lib.hid (show res = (none, 190) by rw [← HO.out, HST.out, if_pos ⟨HF.out, (idxB_iff xp xn L 0).1 (by rw [← HIX.out]; exact hk)⟩])
      clear hk
      go_upto_region 5 with fail
      refine start_ (n := 21) (S := fun w' => w'.cell? (ad.add (i * 4)) = some (.string xp) ∧ w'.cell? ⟨(ad.add (i * 4)).block, (ad.add (i * 4)).off + 1, none⟩ = some (.string xn) ∧ w'.cell? ⟨(ad.add (i * 4)).block, (ad.add (i * 4)).off + 2, none⟩ = some (.string xs) ∧ w'.cell? ⟨(ad.add (i * 4)).block, (ad.add (i * 4)).off + 3, none⟩ = some (.int .i64 xv)) (ds := []) #[false, false, false, false, false, false, false, false, false, false, false, false, false, false, false, false, false, false, false, false, false] (by kernel_rfl) rfl rfl (CELL.out _ (below_drew1 HB.out)) (fun hHeld => ?_)
      have HTr := Aside0.mk (HT.out.below (drew_below wr))
      have HBr := Aside0.mk (below_drew1 HB.out)
      clear HB HT
      have HB := HBr
      have HT := HTr
      clear HBr HTr
      generalize World.drew _ = wd at HB HT hHeld ⊢
      refine pure_ (i := 0) (N := some 14) (v := ?_) (a' := ?_) #[true, false, false, false, false, false, false, false, false, false, false, false, false, false, false, false, false, false, false, false, false] rfl rfl (by kernel_rfl) (fun _ _ _ h => h) (Or.inl ⟨by rfl, ?_⟩) ?_ ?_
      rotate_left
      · intro w'
        go_simp
        with_reducible rfl
      rotate_left
      · simp only [Act.put, List.setIfInBounds_toArray, List.set_cons_zero, List.set_cons_succ, i64_w, i32_w]
        rfl
      refine pure_ (i := 1) (N := some 15) (v := ?_) (a' := ?_) #[true, true, false, false, false, false, false, false, false, false, false, false, false, false, false, false, false, false, false, false, false] rfl rfl (by kernel_rfl) (fun _ _ _ h => h) (Or.inl ⟨by rfl, ?_⟩) ?_ ?_
      rotate_left
      · intro w'
        go_simp
        with_reducible rfl
      rotate_left
      · simp only [Act.put, List.setIfInBounds_toArray, List.set_cons_zero, List.set_cons_succ, i64_w, i32_w]
        rfl
      refine pure_ (i := 2) (N := some 16) (v := ?_) (a' := ?_) #[true, true, true, false, false, false, false, false, false, false, false, false, false, false, false, false, false, false, false, false, false] rfl rfl (by kernel_rfl) (fun _ _ _ h => h) (Or.inl ⟨by rfl, ?_⟩) ?_ ?_
      rotate_left
      · intro w'
        go_simp
        with_reducible rfl
      rotate_left
      · simp only [Act.put, List.setIfInBounds_toArray, List.set_cons_zero, List.set_cons_succ, i64_w, i32_w]
        rfl
      refine take_ (i := 3) (N := some 17) (v := ?_) (a' := ?_) #[true, true, true, true, false, false, false, false, false, false, false, false, false, false, false, false, false, false, false, false, false] rfl rfl (by kernel_rfl) (fun _ _ _ h => h) (Or.inl ⟨by rfl, ?_⟩) hHeld ?_ ?_
      rotate_left
      · rintro w' ⟨s0, s1, s2, s3⟩
        go_simp
        with_reducible rfl
      rotate_left
      · simp only [Act.put, List.setIfInBounds_toArray, List.set_cons_zero, List.set_cons_succ, i64_w, i32_w]
        rfl
      refine one_ (i := 4) (N := some 18) #[true, true, true, true, true, false, false, false, false, false, false, false, false, false, false, false, false, false, false, false, false] rfl rfl (by kernel_rfl) (by decide) (fun K hK => ?_)
      refine goes_ Tryd.func35 (by kernel_rfl) rfl #[.agg #[.string xp, .string xn, .string xs, .int .i64 xv]] (by rfl) rfl rfl (by (try simp only [List.map_toArray, List.map_cons, List.map_nil]); first | done | rfl) ?_
      with_reducible refine (VB.out wd).mono ?_
      rintro e wz ⟨rfl, hb⟩
      have HBr := Aside0.mk (HB.out.trans (below_lower hb HB.out.size))
      have HTr := Aside0.mk (HT.out.below hb)
      clear HB hb HT
      have HB := HBr
      have HT := HTr
      clear HBr HTr
      refine ⟨_, rfl, ?_⟩
      refine hK.out _ _ (CELL.out _ HB.out) (fun hHeld => ?_)
      clear hK K
      refine norm_ (a' := ?_) ?_ ?_
      rotate_left
      · show Act.put _ (some 18) _ = _
        simp only [Act.put, List.setIfInBounds_toArray, List.set_cons_zero, List.set_cons_succ, i64_w, i32_w]
        rfl
      refine pure_ (i := 5) (N := some 19) (v := ?_) (a' := ?_) #[true, true, true, true, true, true, false, false, false, false, false, false, false, false, false, false, false, false, false, false, false] rfl rfl (by kernel_rfl) (fun _ _ _ h => h) (Or.inl ⟨by rfl, ?_⟩) ?_ ?_
      rotate_left
      · intro w'
        go_simp
        with_reducible rfl
      rotate_left
      · simp only [Act.put, List.setIfInBounds_toArray, List.set_cons_zero, List.set_cons_succ, i64_w, i32_w]
        rfl
      refine pure_ (i := 6) (N := some 20) (v := ?_) (a' := ?_) #[true, true, true, true, true, true, true, false, false, false, false, false, false, false, false, false, false, false, false, false, false] rfl rfl (by kernel_rfl) (fun _ _ _ h => h) (Or.inl ⟨by rfl, ?_⟩) ?_ ?_
      rotate_left
      · intro w'
        go_simp
        with_reducible rfl
      rotate_left
      · simp only [Act.put, List.setIfInBounds_toArray, List.set_cons_zero, List.set_cons_succ, i64_w, i32_w]
        rfl
      refine pure_ (i := 7) (N := some 21) (v := ?_) (a' := ?_) #[true, true, true, true, true, true, true, true, false, false, false, false, false, false, false, false, false, false, false, false, false] rfl rfl (by kernel_rfl) (fun _ _ _ h => h) (Or.inl ⟨by rfl, ?_⟩) ?_ ?_
      rotate_left
      · intro w'
        go_simp
        with_reducible rfl
      rotate_left
      · simp only [Act.put, List.setIfInBounds_toArray, List.set_cons_zero, List.set_cons_succ, i64_w, i32_w]
        rfl
      refine pure_ (i := 8) (N := some 22) (v := ?_) (a' := ?_) #[true, true, true, true, true, true, true, true, true, false, false, false, false, false, false, false, false, false, false, false, false] rfl rfl (by kernel_rfl) (fun _ _ _ h => h) (Or.inl ⟨by rfl, ?_⟩) ?_ ?_
      rotate_left
      · intro w'
        go_simp
        with_reducible rfl
      rotate_left
      · simp only [Act.put, List.setIfInBounds_toArray, List.set_cons_zero, List.set_cons_succ, i64_w, i32_w]
        rfl
      refine pure_ (i := 9) (N := some 23) (v := ?_) (a' := ?_) #[true, true, true, true, true, true, true, true, true, true, false, false, false, false, false, false, false, false, false, false, false] rfl rfl (by kernel_rfl) (fun _ _ _ h => h) (Or.inl ⟨by rfl, ?_⟩) ?_ ?_
      rotate_left
      · intro w'
        go_simp
        with_reducible rfl
      rotate_left
      · simp only [Act.put, List.setIfInBounds_toArray, List.set_cons_zero, List.set_cons_succ, i64_w, i32_w]
        rfl
      refine pure_ (i := 10) (N := some 24) (v := ?_) (a' := ?_) #[true, true, true, true, true, true, true, true, true, true, true, false, false, false, false, false, false, false, false, false, false] rfl rfl (by kernel_rfl) (fun _ _ _ h => h) (Or.inl ⟨by rfl, ?_⟩) ?_ ?_
      rotate_left
      · intro w'
        go_simp
        with_reducible rfl
      rotate_left
      · simp only [Act.put, List.setIfInBounds_toArray, List.set_cons_zero, List.set_cons_succ, i64_w, i32_w]
        rfl
      refine pure_ (i := 11) (N := some 25) (v := ?_) (a' := ?_) #[true, true, true, true, true, true, true, true, true, true, true, true, false, false, false, false, false, false, false, false, false] rfl rfl (by kernel_rfl) (fun _ _ _ h => h) (Or.inl ⟨by rfl, ?_⟩) ?_ ?_
      rotate_left
      · intro w'
        go_simp
        with_reducible rfl
      rotate_left
      · simp only [Act.put, List.setIfInBounds_toArray, List.set_cons_zero, List.set_cons_succ, i64_w, i32_w]
        rfl
      refine take_ (i := 12) (N := some 26) (v := ?_) (a' := ?_) #[true, true, true, true, true, true, true, true, true, true, true, true, true, false, false, false, false, false, false, false, false] rfl rfl (by kernel_rfl) (fun _ _ _ h => h) (Or.inl ⟨by rfl, ?_⟩) hHeld ?_ ?_
      rotate_left
      · rintro w' ⟨s0, s1, s2, s3⟩
        go_simp
        with_reducible rfl
      rotate_left
      · simp only [Act.put, List.setIfInBounds_toArray, List.set_cons_zero, List.set_cons_succ, i64_w, i32_w]
        rfl
      refine pure_ (i := 13) (N := some 27) (v := ?_) (a' := ?_) #[true, true, true, true, true, true, true, true, true, true, true, true, true, true, false, false, false, false, false, false, false] rfl rfl (by kernel_rfl) (fun _ _ _ h => h) (Or.inl ⟨by rfl, ?_⟩) ?_ ?_
      rotate_left
      · intro w'
        go_simp
        with_reducible rfl
      rotate_left
      · simp only [Act.put, List.setIfInBounds_toArray, List.set_cons_zero, List.set_cons_succ, i64_w, i32_w]
        rfl
      refine pure_ (i := 14) (N := some 28) (v := ?_) (a' := ?_) #[true, true, true, true, true, true, true, true, true, true, true, true, true, true, true, false, false, false, false, false, false] rfl rfl (by kernel_rfl) (fun _ _ _ h => h) (Or.inl ⟨by rfl, ?_⟩) ?_ ?_
      rotate_left
      · intro w'
        go_simp
        with_reducible rfl
      rotate_left
      · simp only [Act.put, List.setIfInBounds_toArray, List.set_cons_zero, List.set_cons_succ, i64_w, i32_w]
        rfl
      refine pure_ (i := 15) (N := some 29) (v := ?_) (a' := ?_) #[true, true, true, true, true, true, true, true, true, true, true, true, true, true, true, true, false, false, false, false, false] rfl rfl (by kernel_rfl) (fun _ _ _ h => h) (Or.inl ⟨by rfl, ?_⟩) ?_ ?_
      rotate_left
      · intro w'
        go_simp
        with_reducible rfl
      rotate_left
      · simp only [Act.put, List.setIfInBounds_toArray, List.set_cons_zero, List.set_cons_succ, i64_w, i32_w]
        rfl
      refine pure_ (i := 16) (N := some 30) (v := ?_) (a' := ?_) #[true, true, true, true, true, true, true, true, true, true, true, true, true, true, true, true, true, false, false, false, false] rfl rfl (by kernel_rfl) (fun _ _ _ h => h) (Or.inl ⟨by rfl, ?_⟩) ?_ ?_
      rotate_left
      · intro w'
        go_simp
        with_reducible rfl
      rotate_left
      · simp only [Act.put, List.setIfInBounds_toArray, List.set_cons_zero, List.set_cons_succ, i64_w, i32_w]
        rfl
      refine take_ (i := 17) (N := some 31) (v := ?_) (a' := ?_) #[true, true, true, true, true, true, true, true, true, true, true, true, true, true, true, true, true, true, false, false, false] rfl rfl (by kernel_rfl) (fun _ _ _ h => h) (Or.inl ⟨by rfl, ?_⟩) hHeld ?_ ?_
      rotate_left
      · rintro w' ⟨s0, s1, s2, s3⟩
        go_simp
        with_reducible rfl
      rotate_left
      · simp only [Act.put, List.setIfInBounds_toArray, List.set_cons_zero, List.set_cons_succ, i64_w, i32_w]
        rfl
      refine one_ (i := 18) (N := some 32) #[true, true, true, true, true, true, true, true, true, true, true, true, true, true, true, true, true, true, true, false, false] rfl rfl (by kernel_rfl) (by decide) (fun K hK => ?_)
      refine goes_ Tryd.func36 (by kernel_rfl) rfl #[.pointer (some ⟨r, 0, none⟩), .string xp, .string xn] (by rfl) rfl rfl (by (try simp only [List.map_toArray, List.map_cons, List.map_nil]); first | done | rfl) ?_
      with_reducible refine (AT.out wz HT.out).mono ?_
      rintro e wy ⟨rfl, hw⟩
      have hw2 := hw.symm
      clear hw
      subst hw2
      refine ⟨_, rfl, ?_⟩
      refine hK.out _ _ (CELL.out _ HB.out) (fun hHeld => ?_)
      clear hK K
      refine norm_ (a' := ?_) ?_ ?_
      rotate_left
      · show Act.put _ (some 32) _ = _
        simp only [Act.put, List.setIfInBounds_toArray, List.set_cons_zero, List.set_cons_succ, i64_w, i32_w]
        rfl
      refine pure_ (i := 19) (N := some 33) (v := ?_) (a' := ?_) #[true, true, true, true, true, true, true, true, true, true, true, true, true, true, true, true, true, true, true, true, false] rfl rfl (by kernel_rfl) (fun _ _ _ h => h) (Or.inl ⟨by rfl, ?_⟩) ?_ ?_
      rotate_left
      · intro w'
        go_simp
        with_reducible rfl
      rotate_left
      · simp only [Act.put, List.setIfInBounds_toArray, List.set_cons_zero, List.set_cons_succ, i64_w, i32_w]
        rfl
      refine pure_ (i := 20) (N := some 34) (v := ?_) (a' := ?_) #[true, true, true, true, true, true, true, true, true, true, true, true, true, true, true, true, true, true, true, true, true] rfl rfl (by kernel_rfl) (fun _ _ _ h => h) (Or.inl ⟨by rfl, ?_⟩) ?_ ?_
      rotate_left
      · intro w'
        go_simp
        with_reducible rfl
      rotate_left
      · simp only [Act.put, List.setIfInBounds_toArray, List.set_cons_zero, List.set_cons_succ, i64_w, i32_w]
        rfl
      refine done_ (by kernel_rfl) ?_
      clear hHeld
      go_wp2
      go_ret2
      exact ⟨_, by rw [HRS.out] <;> rfl, .inl ⟨by rw [HRS.out], rfl⟩, HB.out⟩
    have d0 : decide (ix ≥ 0) = false := decide_eq_false (by omega)
    have d0b : decide (0 ≤ ix) = false := decide_eq_false hk
    have hkn : keyB ⟨xp, xn, xs, xv⟩ ∉ L.map keyB := fun h => hk (by rw [HIX.out]; exact (idxB_iff xp xn L 0).2 h)
    have HKN := Lib.hid (show formedB ⟨xp, xn, xs, xv⟩ = true → keyB ⟨xp, xn, xs, xv⟩ ∉ L.map keyB from fun _ => hkn)
    have HS2 := Lib.hid (show rOf L (l.drop i) = if rSetE L ⟨xp, xn, xs, xv⟩ = 0 then rOf (insF ⟨xp, xn, xs, xv⟩ false L) (l.drop (i + 1)) else (none, rSetE L ⟨xp, xn, xs, xv⟩) by rw [HST.out, if_neg (fun h => hkn h.2)])
    clear hk hkn HST
    go_upto_region 5 with fail
    refine start_ (n := 21) (S := fun w' => w'.cell? (ad.add (i * 4)) = some (.string xp) ∧ w'.cell? ⟨(ad.add (i * 4)).block, (ad.add (i * 4)).off + 1, none⟩ = some (.string xn) ∧ w'.cell? ⟨(ad.add (i * 4)).block, (ad.add (i * 4)).off + 2, none⟩ = some (.string xs) ∧ w'.cell? ⟨(ad.add (i * 4)).block, (ad.add (i * 4)).off + 3, none⟩ = some (.int .i64 xv)) (ds := []) #[false, false, false, false, false, false, false, false, false, false, false, false, false, false, false, false, false, false, false, false, false] (by kernel_rfl) rfl rfl (CELL.out _ (below_drew1 HB.out)) (fun hHeld => ?_)
    have HTr := Aside0.mk (HT.out.below (drew_below wr))
    have HBr := Aside0.mk (below_drew1 HB.out)
    clear HB HT
    have HB := HBr
    have HT := HTr
    clear HBr HTr
    generalize World.drew _ = wd at HB HT hHeld ⊢
    refine pure_ (i := 0) (N := some 14) (v := ?_) (a' := ?_) #[true, false, false, false, false, false, false, false, false, false, false, false, false, false, false, false, false, false, false, false, false] rfl rfl (by kernel_rfl) (fun _ _ _ h => h) (Or.inl ⟨by rfl, ?_⟩) ?_ ?_
    rotate_left
    · intro w'
      go_simp
      with_reducible rfl
    rotate_left
    · simp only [Act.put, List.setIfInBounds_toArray, List.set_cons_zero, List.set_cons_succ, i64_w, i32_w]
      rfl
    refine pure_ (i := 1) (N := some 15) (v := ?_) (a' := ?_) #[true, true, false, false, false, false, false, false, false, false, false, false, false, false, false, false, false, false, false, false, false] rfl rfl (by kernel_rfl) (fun _ _ _ h => h) (Or.inl ⟨by rfl, ?_⟩) ?_ ?_
    rotate_left
    · intro w'
      go_simp
      with_reducible rfl
    rotate_left
    · simp only [Act.put, List.setIfInBounds_toArray, List.set_cons_zero, List.set_cons_succ, i64_w, i32_w]
      rfl
    refine pure_ (i := 2) (N := some 16) (v := ?_) (a' := ?_) #[true, true, true, false, false, false, false, false, false, false, false, false, false, false, false, false, false, false, false, false, false] rfl rfl (by kernel_rfl) (fun _ _ _ h => h) (Or.inl ⟨by rfl, ?_⟩) ?_ ?_
    rotate_left
    · intro w'
      go_simp
      with_reducible rfl
    rotate_left
    · simp only [Act.put, List.setIfInBounds_toArray, List.set_cons_zero, List.set_cons_succ, i64_w, i32_w]
      rfl
    refine take_ (i := 3) (N := some 17) (v := ?_) (a' := ?_) #[true, true, true, true, false, false, false, false, false, false, false, false, false, false, false, false, false, false, false, false, false] rfl rfl (by kernel_rfl) (fun _ _ _ h => h) (Or.inl ⟨by rfl, ?_⟩) hHeld ?_ ?_
    rotate_left
    · rintro w' ⟨s0, s1, s2, s3⟩
      go_simp
      with_reducible rfl
    rotate_left
    · simp only [Act.put, List.setIfInBounds_toArray, List.set_cons_zero, List.set_cons_succ, i64_w, i32_w]
      rfl
    refine one_ (i := 4) (N := some 18) #[true, true, true, true, true, false, false, false, false, false, false, false, false, false, false, false, false, false, false, false, false] rfl rfl (by kernel_rfl) (by decide) (fun K hK => ?_)
    refine goes_ Tryd.func35 (by kernel_rfl) rfl #[.agg #[.string xp, .string xn, .string xs, .int .i64 xv]] (by rfl) rfl rfl (by (try simp only [List.map_toArray, List.map_cons, List.map_nil]); first | done | rfl) ?_
    with_reducible refine (VB.out wd).mono ?_
    rintro e wz ⟨rfl, hb⟩
    have HBr := Aside0.mk (HB.out.trans (below_lower hb HB.out.size))
    have HTr := Aside0.mk (HT.out.below hb)
    clear HB hb HT
    have HB := HBr
    have HT := HTr
    clear HBr HTr
    refine ⟨_, rfl, ?_⟩
    refine hK.out _ _ (CELL.out _ HB.out) (fun hHeld => ?_)
    clear hK K
    refine norm_ (a' := ?_) ?_ ?_
    rotate_left
    · show Act.put _ (some 18) _ = _
      simp only [Act.put, List.setIfInBounds_toArray, List.set_cons_zero, List.set_cons_succ, i64_w, i32_w]
      rfl
    refine pure_ (i := 5) (N := some 19) (v := ?_) (a' := ?_) #[true, true, true, true, true, true, false, false, false, false, false, false, false, false, false, false, false, false, false, false, false] rfl rfl (by kernel_rfl) (fun _ _ _ h => h) (Or.inl ⟨by rfl, ?_⟩) ?_ ?_
    rotate_left
    · intro w'
      go_simp
      with_reducible rfl
    rotate_left
    · simp only [Act.put, List.setIfInBounds_toArray, List.set_cons_zero, List.set_cons_succ, i64_w, i32_w]
      rfl
    refine pure_ (i := 6) (N := some 20) (v := ?_) (a' := ?_) #[true, true, true, true, true, true, true, false, false, false, false, false, false, false, false, false, false, false, false, false, false] rfl rfl (by kernel_rfl) (fun _ _ _ h => h) (Or.inl ⟨by rfl, ?_⟩) ?_ ?_
    rotate_left
    · intro w'
      go_simp
      with_reducible rfl
    rotate_left
    · simp only [Act.put, List.setIfInBounds_toArray, List.set_cons_zero, List.set_cons_succ, i64_w, i32_w]
      rfl
    refine pure_ (i := 7) (N := some 21) (v := ?_) (a' := ?_) #[true, true, true, true, true, true, true, true, false, false, false, false, false, false, false, false, false, false, false, false, false] rfl rfl (by kernel_rfl) (fun _ _ _ h => h) (Or.inl ⟨by rfl, ?_⟩) ?_ ?_
    rotate_left
    · intro w'
      go_simp
      with_reducible rfl
    rotate_left
    · simp only [Act.put, List.setIfInBounds_toArray, List.set_cons_zero, List.set_cons_succ, i64_w, i32_w]
      rfl
    refine pure_ (i := 8) (N := some 22) (v := ?_) (a' := ?_) #[true, true, true, true, true, true, true, true, true, false, false, false, false, false, false, false, false, false, false, false, false] rfl rfl (by kernel_rfl) (fun _ _ _ h => h) (Or.inl ⟨by rfl, ?_⟩) ?_ ?_
    rotate_left
    · intro w'
      go_simp
      with_reducible rfl
    rotate_left
    · simp only [Act.put, List.setIfInBounds_toArray, List.set_cons_zero, List.set_cons_succ, i64_w, i32_w]
      rfl
    refine pure_ (i := 9) (N := some 23) (v := ?_) (a' := ?_) #[true, true, true, true, true, true, true, true, true, true, false, false, false, false, false, false, false, false, false, false, false] rfl rfl (by kernel_rfl) (fun _ _ _ h => h) (Or.inl ⟨by rfl, ?_⟩) ?_ ?_
    rotate_left
    · intro w'
      go_simp
      with_reducible rfl
    rotate_left
    · simp only [Act.put, List.setIfInBounds_toArray, List.set_cons_zero, List.set_cons_succ, i64_w, i32_w]
      rfl
    refine pure_ (i := 10) (N := some 24) (v := ?_) (a' := ?_) #[true, true, true, true, true, true, true, true, true, true, true, false, false, false, false, false, false, false, false, false, false] rfl rfl (by kernel_rfl) (fun _ _ _ h => h) (Or.inl ⟨by rfl, ?_⟩) ?_ ?_
    rotate_left
    · intro w'
      go_simp
      with_reducible rfl
    rotate_left
    · simp only [Act.put, List.setIfInBounds_toArray, List.set_cons_zero, List.set_cons_succ, i64_w, i32_w]
      rfl
    refine pure_ (i := 11) (N := some 25) (v := ?_) (a' := ?_) #[true, true, true, true, true, true, true, true, true, true, true, true, false, false, false, false, false, false, false, false, false] rfl rfl (by kernel_rfl) (fun _ _ _ h => h) (Or.inl ⟨by rfl, ?_⟩) ?_ ?_
    rotate_left
    · intro w'
      go_simp
      with_reducible rfl
    rotate_left
    · simp only [Act.put, List.setIfInBounds_toArray, List.set_cons_zero, List.set_cons_succ, i64_w, i32_w]
      rfl
    refine take_ (i := 12) (N := some 26) (v := ?_) (a' := ?_) #[true, true, true, true, true, true, true, true, true, true, true, true, true, false, false, false, false, false, false, false, false] rfl rfl (by kernel_rfl) (fun _ _ _ h => h) (Or.inl ⟨by rfl, ?_⟩) hHeld ?_ ?_
    rotate_left
    · rintro w' ⟨s0, s1, s2, s3⟩
      go_simp
      with_reducible rfl
    rotate_left
    · simp only [Act.put, List.setIfInBounds_toArray, List.set_cons_zero, List.set_cons_succ, i64_w, i32_w]
      rfl
    refine pure_ (i := 13) (N := some 27) (v := ?_) (a' := ?_) #[true, true, true, true, true, true, true, true, true, true, true, true, true, true, false, false, false, false, false, false, false] rfl rfl (by kernel_rfl) (fun _ _ _ h => h) (Or.inl ⟨by rfl, ?_⟩) ?_ ?_
    rotate_left
    · intro w'
      go_simp
      with_reducible rfl
    rotate_left
    · simp only [Act.put, List.setIfInBounds_toArray, List.set_cons_zero, List.set_cons_succ, i64_w, i32_w]
      rfl
    refine pure_ (i := 14) (N := some 28) (v := ?_) (a' := ?_) #[true, true, true, true, true, true, true, true, true, true, true, true, true, true, true, false, false, false, false, false, false] rfl rfl (by kernel_rfl) (fun _ _ _ h => h) (Or.inl ⟨by rfl, ?_⟩) ?_ ?_
    rotate_left
    · intro w'
      go_simp
      with_reducible rfl
    rotate_left
    · simp only [Act.put, List.setIfInBounds_toArray, List.set_cons_zero, List.set_cons_succ, i64_w, i32_w]
      rfl
    refine pure_ (i := 15) (N := some 29) (v := ?_) (a' := ?_) #[true, true, true, true, true, true, true, true, true, true, true, true, true, true, true, true, false, false, false, false, false] rfl rfl (by kernel_rfl) (fun _ _ _ h => h) (Or.inl ⟨by rfl, ?_⟩) ?_ ?_
    rotate_left
    · intro w'
      go_simp
      with_reducible rfl
    rotate_left
    · simp only [Act.put, List.setIfInBounds_toArray, List.set_cons_zero, List.set_cons_succ, i64_w, i32_w]
      rfl
    refine pure_ (i := 16) (N := some 30) (v := ?_) (a' := ?_) #[true, true, true, true, true, true, true, true, true, true, true, true, true, true, true, true, true, false, false, false, false] rfl rfl (by kernel_rfl) (fun _ _ _ h => h) (Or.inl ⟨by rfl, ?_⟩) ?_ ?_
    rotate_left
    · intro w'
      go_simp
      with_reducible rfl
    rotate_left
    · simp only [Act.put, List.setIfInBounds_toArray, List.set_cons_zero, List.set_cons_succ, i64_w, i32_w]
      rfl
    refine take_ (i := 17) (N := some 31) (v := ?_) (a' := ?_) #[true, true, true, true, true, true, true, true, true, true, true, true, true, true, true, true, true, true, false, false, false] rfl rfl (by kernel_rfl) (fun _ _ _ h => h) (Or.inl ⟨by rfl, ?_⟩) hHeld ?_ ?_
    rotate_left
    · rintro w' ⟨s0, s1, s2, s3⟩
      go_simp
      with_reducible rfl
    rotate_left
    · simp only [Act.put, List.setIfInBounds_toArray, List.set_cons_zero, List.set_cons_succ, i64_w, i32_w]
      rfl
    refine one_ (i := 18) (N := some 32) #[true, true, true, true, true, true, true, true, true, true, true, true, true, true, true, true, true, true, true, false, false] rfl rfl (by kernel_rfl) (by decide) (fun K hK => ?_)
    refine goes_ Tryd.func36 (by kernel_rfl) rfl #[.pointer (some ⟨r, 0, none⟩), .string xp, .string xn] (by rfl) rfl rfl (by (try simp only [List.map_toArray, List.map_cons, List.map_nil]); first | done | rfl) ?_
    with_reducible refine (AT.out wz HT.out).mono ?_
    rintro e wy ⟨rfl, hw⟩
    have hw2 := hw.symm
    clear hw
    subst hw2
    refine ⟨_, rfl, ?_⟩
    refine hK.out _ _ (CELL.out _ HB.out) (fun hHeld => ?_)
    clear hK K
    refine norm_ (a' := ?_) ?_ ?_
    rotate_left
    · show Act.put _ (some 32) _ = _
      simp only [Act.put, List.setIfInBounds_toArray, List.set_cons_zero, List.set_cons_succ, i64_w, i32_w]
      rfl
    refine pure_ (i := 19) (N := some 33) (v := ?_) (a' := ?_) #[true, true, true, true, true, true, true, true, true, true, true, true, true, true, true, true, true, true, true, true, false] rfl rfl (by kernel_rfl) (fun _ _ _ h => h) (Or.inl ⟨by rfl, ?_⟩) ?_ ?_
    rotate_left
    · intro w'
      go_simp
      with_reducible rfl
    rotate_left
    · simp only [Act.put, List.setIfInBounds_toArray, List.set_cons_zero, List.set_cons_succ, i64_w, i32_w]
      rfl
    refine pure_ (i := 20) (N := some 34) (v := ?_) (a' := ?_) #[true, true, true, true, true, true, true, true, true, true, true, true, true, true, true, true, true, true, true, true, true] rfl rfl (by kernel_rfl) (fun _ _ _ h => h) (Or.inl ⟨by rfl, ?_⟩) ?_ ?_
    rotate_left
    · intro w'
      go_simp
      with_reducible rfl
    rotate_left
    · simp only [Act.put, List.setIfInBounds_toArray, List.set_cons_zero, List.set_cons_succ, i64_w, i32_w]
      rfl
    refine done_ (by kernel_rfl) ?_
    clear hHeld
    by_cases he : rSetE L ⟨xp, xn, xs, xv⟩ = 0
    · have HE := Lib.hid he
      clear he
      have hcs := CELL.out _ HB.out
      obtain ⟨hy0, hy1, hy2, hy3⟩ := hcs
      have ST := Lib.hid (rset_ok w wz r w.heap.size u L ⟨xp, xn, xs, xv⟩ HT.out HB.out HRB.out (Nat.le_refl _) HXS.out HLS.out HKN.out (by have := HLN.out; have := HLL.out; have := HLT0.out; omega))
      unfold eV at ST
      have ST2 := Lib.hid (ST.out.mono (fun e w'' h => show e = .returned (.int .i64 0) ∧ (∃ v', RT w'' r w.heap.size v' (insF ⟨xp, xn, xs, xv⟩ false L)) ∧ Below w.heap.size w w'' from ⟨by rw [h.1, HE.out], by have := h.2.1; rwa [HE.out, if_pos rfl] at this, h.2.2⟩))
      clear ST
      go_wp2_with (go_at_call 37; refine ST2.out.mono ?_; rintro e w8 ⟨rfl, ⟨u2, hT⟩, hb⟩; have B8 := Aside0.mk hb; have T8 := Aside0.mk hT; clear hT hb)
      go_roundg g0
      case measure => omega
      case rel => exact ⟨i + 1, insF ⟨xp, xn, xs, xv⟩ false L, u2, congrArg (Value.int .i64) HI1.out, ⟨by have := HI.out; omega⟩, ⟨by rw [insF_len]; have := HLN.out; omega⟩, ⟨by rw [← HO.out, HS2.out, if_pos HE.out]⟩, T8, ⟨fun y hy => by rcases List.mem_cons.1 ((insF_perm _ L).mem_iff.1 hy) with rfl | hy; exact HXS.out; exact HLS.out y hy⟩, B8⟩
    · obtain ⟨se, hse⟩ : ∃ se, se = rSetE L ⟨xp, xn, xs, xv⟩ := ⟨_, rfl⟩
      have HRS := Lib.hid (show res = (none, se) by rw [hse, ← HO.out, HS2.out, if_neg he])
      have s1 : (se != 0) = true := by rw [bne_iff_ne, hse]; exact he
      have s2 : (se == 0) = false := by rw [beq_eq_false_iff_ne, hse]; exact he
      have s3 : (se = 0) = False := eq_false (by rw [hse]; exact he)
      have HSE := Lib.hid hse
      clear he hse
      have hcs := CELL.out _ HB.out
      obtain ⟨hy0, hy1, hy2, hy3⟩ := hcs
      have ST := Lib.hid (rset_ok w wz r w.heap.size u L ⟨xp, xn, xs, xv⟩ HT.out HB.out HRB.out (Nat.le_refl _) HXS.out HLS.out HKN.out (by have := HLN.out; have := HLL.out; have := HLT0.out; omega))
      unfold eV at ST
      have ST2 := Lib.hid (ST.out.mono (fun e w'' h => show e = .returned (.int .i64 se) ∧ Below w.heap.size w w'' from ⟨by rw [h.1, HSE.out], h.2.2⟩))
      clear ST
      go_wp2_with (go_at_call 37; refine ST2.out.mono ?_; rintro e w8 ⟨rfl, hb⟩; have B8 := Aside0.mk hb; clear hb)
      go_ret2
      exact ⟨_, by rw [HRS.out] <;> rfl, .inl ⟨by rw [HRS.out], rfl⟩, B8.out⟩
end Go.Proofs.YtphddbijdfmpjaaDoor.Q
namespace Go.Proofs.YtphddbijdfmpjaaDoor.Q
open Go.RowKit Go.MapRaw Go.Proofs.YtphddbijdfmpjaaDoorW.PrintWords Go.Proofs.YtphddbijdfmpjaaDoorW.PrintLast Go.Proofs.YtphddbijdfmpjaaDoor.Wr
set_option linter.unusedVariables false
set_option linter.unusedSimpArgs false
def Small27 (l : List Bnd) : Prop := l.length ≤ 1048576 ∧ ∀ x ∈ l, x.path.size ≤ 1048576
theorem same_self2 {ar : Array Value} {w : World} {L : List Bnd} (h : Calls Tryd.prog 16 ar w fun e w' => e = .returned (.bool (sameB L L)) ∧ Below w.heap.size w w') : Calls Tryd.prog 16 ar w fun e w' => e = .returned (.bool true) ∧ Below w.heap.size w w' := by
  rw [(sameB_iff L L).2 rfl] at h; exact h
set_option maxRecDepth 100000 in
set_option maxHeartbeats 16000000 in
theorem bursarlaw21_AccessOfMany.calls (k : Nat) (A : Option Addr) (c : Nat) (l : List Bnd) (r : Bool) (w : World) (hr : k27.C w A l.length l) (hc : l.length ≤ c) (hp : Small27 l ∧ r = true) (hG : Glob w) :
    Calls Tryd.prog 4 #[.slice A l.length c] w fun e w' => e = .returned (.bool r) ∧ Below w.heap.size w w' := by
  obtain ⟨hsm, hp⟩ := hp
  have hu27 := Tryd.underlying27
  have G1 := Lib.hid hG
  have C1 := Lib.hid hr
  have HLL := Lib.hid hsm.1
  have HSS := Lib.hid hsm.2
  have HP := Lib.hid hp
  clear hr hG hsm hc hp
  go_enter Tryd.func4, Tryd.ntmps4
  go_upto_region 1 with fail
  go_wp2_with ((with_reducible refine gate_builtin (b := .append) (xs := #[.const (.slice none 0 0), .tmp 8]) rfl ?_); at_builtin; refine parkR_ ?_)
  refine Aside0.mk ?_
  refine Kd.R_append_rows k27 (Rr := k27.K w) (w0 := w) w.heap.size rfl (.const (.slice none 0 0)) (.tmp 8) 36 27 (.agg #[.string ⟨#[]⟩, .string ⟨#[]⟩, .string ⟨#[]⟩, .int .i64 0]) 56 rfl Tryd.underlying36 info27 rfl (by decide) (by omega) (.slice none 0 0) ([] : List Bnd) l A l.length c (fun _ => True) (fun _ => False) rfl rfl ?aO ?aR ?aK (fun _ h => h.elim) ?aF ?aB ?aS ?aL ?_
  (case aR => exact C1.out)
  (case aK => exact (fun x cs h => by rw [k27_cells h]; exact k27_mkM _ _ _ _))
  (case aB => exact Below.refl _ _)
  (case aF => exact (fun _ _ => trivial))
  (case aO => exact (Kd.R_nil _ _ _ _ (fun _ => True)))
  (case aS => exact Nat.le_refl _)
  (case aL => have := HLL.out; simp; omega)
  intro v2 w1 ho hb2 hg2 hat2
  rw [List.nil_append] at ho
  obtain ⟨Am, cm, rfl⟩ := Kd.R_slice ho
  have M1 := Aside0.mk (Kd.R_reads' ho).2.2
  have L1 := Aside0.mk (Kd.C_below C1.out hb2)
  have B1 := Aside0.mk hb2
  clear ho hb2 hg2 hat2
  have OFM := Lib.hid (of_ok Am cm l w1 M1.out (G1.out.below B1.out) (by have := HLL.out; omega))
  have ROF := Lib.hid (fun w' hC => rof_ok A c l w' hC HLL.out HSS.out)
  have HCASE := Lib.hid (of_same l [] [] Same.nil)
  have SELF := Lib.hid (fun w' hx hy => same_self2 (same_ok A Am c cm l l w' hx hy (by have := HLL.out; omega)))
  obtain ⟨o1, ho1⟩ : ∃ o1, o1 = ofS [] l := ⟨_, rfl⟩
  obtain ⟨o2, ho2⟩ : ∃ o2, o2 = rOf [] l := ⟨_, rfl⟩
  rw [← ho1] at OFM HCASE
  rw [← ho2] at ROF HCASE
  clear ho1 ho2
  obtain ⟨r1, z1⟩ := o1
  obtain ⟨r2, z2⟩ := o2
  rcases HCASE.out with ⟨h1, h2, h3⟩ | ⟨M', L', h1, h2, h3, hS⟩
  · obtain rfl : z1 = z2 := h3
    obtain rfl : r1 = none := h1
    obtain rfl : r2 = none := h2
    clear HCASE
    go_upto_region 3 with (go_at_call 14; refine OFM.out.mono ?_; rintro e w2 ⟨v2, rfl, hv, hb⟩; obtain ⟨_, rfl⟩ := hv.resolve_right (fun ⟨_, _, _, h, _⟩ => by cases h); have M2 := Aside0.mk (Kd.C_below M1.out hb); have L2 := Aside0.mk (Kd.C_below L1.out hb); have B2 := Aside0.mk (B1.out.trans (below_lower hb B1.out.size)); clear hv hb)
    clear OFM
    go_upto_region 4 with (go_at_call 15; refine (ROF.out w2 L2.out).mono ?_; rintro e w3 ⟨v3, rfl, hv, hb⟩; obtain ⟨_, rfl⟩ := hv.resolve_right (fun ⟨_, _, _, h, _⟩ => by cases h); have M3 := Aside0.mk (Kd.C_below M2.out hb); have L3 := Aside0.mk (Kd.C_below L2.out hb); have B3 := Aside0.mk (B2.out.trans (below_lower hb B2.out.size)); clear hv hb)
    clear ROF
    go_wp2_with (go_at_call 16; refine (SELF.out w3 L3.out M3.out).mono ?_; rintro e w4 ⟨rfl, hb⟩; have B4 := Aside0.mk (B3.out.trans (below_lower hb B3.out.size)); clear hb)
    go_ret
    exact ⟨by rw [HP.out] <;> rfl, B4.out⟩
  · obtain rfl : z1 = z2 := h3
    obtain rfl : r1 = some M' := h1
    obtain rfl : r2 = some L' := h2
    have HSM := Lib.hid hS
    clear HCASE hS
    go_upto_region 3 with (go_at_call 14; refine OFM.out.mono ?_; rintro e w2 ⟨v2, rfl, hv, hb⟩; obtain ⟨U, tu, bu, hU, rfl, hTU, htu, hbu⟩ := hv.resolve_left (fun h => (by cases h.1)); obtain rfl : M' = U := Option.some.inj hU; have T2 := Aside0.mk hTU; have M2 := Aside0.mk (Kd.C_below M1.out hb); have L2 := Aside0.mk (Kd.C_below L1.out hb); have B2 := Aside0.mk (B1.out.trans (below_lower hb B1.out.size)); clear hv hb hTU hU htu hbu)
    clear OFM
    go_upto_region 4 with (go_at_call 15; refine (ROF.out w2 L2.out).mono ?_; rintro e w3 ⟨v3, rfl, hv, hb⟩; obtain ⟨U, tr, vr, hU, rfl, hRT, hRL⟩ := hv.resolve_left (fun h => (by cases h.1)); obtain rfl : L' = U := Option.some.inj hU; have T3 := Aside0.mk (T2.out.below hb); have R3 := Aside0.mk hRT; have HRL := Lib.hid hRL; have M3 := Aside0.mk (Kd.C_below M2.out hb); have L3 := Aside0.mk (Kd.C_below L2.out hb); have B3 := Aside0.mk (B2.out.trans (below_lower hb B2.out.size)); clear hv hb hRT hU hRL)
    clear ROF
    go_upto_region 6 with (go_at_call 16; refine (SELF.out w3 L3.out M3.out).mono ?_; rintro e w4 ⟨rfl, hb⟩; have B4 := Aside0.mk (B3.out.trans (below_lower hb B3.out.size)); have T4 := Aside0.mk (T3.out.below hb); have R4 := Aside0.mk (R3.out.below hb); clear hb)
    clear SELF
    have LST := Lib.hid (list_ok w4 tu bu M' T4.out (G1.out.below B4.out) (by have h := HSM.out.perm.length_eq; rw [List.length_map] at h; have := HRL.out; omega))
    have RLS := Lib.hid (fun w' hR => rlist_ok w' tr w2.heap.size vr L' hR (by have := HRL.out; omega))
    have SAME := Lib.hid (fun (A5 A6 : Option Addr) (c5 c6 : Nat) (w' : World) hx hy => same_self2 (same_ok A5 A6 c5 c6 L' L' w' hx hy (by have := HRL.out; omega)))
    go_wp2_with (first
      | (go_at_call 17; refine LST.out.mono ?_; rintro e w5 ⟨v5, L5, rfl, hP, hS, hR, hb⟩; obtain ⟨A5, c5, rfl⟩ := Kd.R_slice hR; have hL5 : L' = L5 := (HSM.out.list hP hS).symm; subst hL5; have C5 := Aside0.mk (Kd.R_reads' hR).2.2; have B5 := Aside0.mk (B4.out.trans (below_lower hb B4.out.size)); have R5 := Aside0.mk (R4.out.below hb); clear hP hS hR hb)
      | (go_at_call 18; refine (RLS.out w5 R5.out).mono ?_; rintro e w6 ⟨v6, rfl, hR, hb⟩; obtain ⟨A6, c6, rfl⟩ := Kd.R_slice hR; have D6 := Aside0.mk (Kd.R_reads' hR).2.2; have C6 := Aside0.mk (Kd.C_below C5.out hb); have B6 := Aside0.mk (B5.out.trans (below_lower hb B5.out.size)); clear hR hb)
      | (go_at_call 16; refine (SAME.out _ _ _ _ w6 C6.out D6.out).mono ?_; rintro e w7 ⟨rfl, hb⟩; have B7 := Aside0.mk (B6.out.trans (below_lower hb B6.out.size)); clear hb))
    go_ret
    exact ⟨by rw [HP.out] <;> rfl, B7.out⟩
end Go.Proofs.YtphddbijdfmpjaaDoor.Q
namespace Go.Proofs.YtphddbijdfmpjaaDoor.Q
open Go.RowKit Go.ChangeShapes Go.Proofs.YtphddbijdfmpjaaDoorW.PrintWords Go.Proofs.YtphddbijdfmpjaaDoorW.PrintLast Go.Proofs.YtphddbijdfmpjaaDoor.Wr
set_option linter.unusedVariables false
theorem small27 {H : Type} {d : DataW H} {l : List Bnd} (h : RowD BnD d l) (hb : Rows.uptoBulk d ≤ 1048576) : Small27 l := by
  obtain ⟨h1, h2⟩ := bulk_row h
  refine ⟨by omega, fun t ht => ?_⟩
  obtain ⟨i, hi, rfl⟩ := List.getElem_of_mem ht
  obtain ⟨e, ⟨l', rfl, y, r, rfl, ⟨rfl, hy⟩, y1, r1, rfl, _, y2, r2, rfl, _, y3, rfl, _⟩, he⟩ := h2 i _ (List.getElem?_eq_getElem hi)
  have h3 := bulk_agg (l := [.lit (.string l[i].path.data.toList), y1, y2, y3]) 0 (.lit (.string l[i].path.data.toList)) rfl
  have h4 := bulk_str (H := H) l[i].path
  omega
end Go.Proofs.YtphddbijdfmpjaaDoor.Q
namespace Go.Proofs.YtphddbijdfmpjaaDoor.Pure
set_option linter.unusedVariables false
theorem AccessOfMany (l : List Wr.Bnd) (c0 : Q.Small27 l) : ∃ k : Nat, Q.Small27 l ∧ true = true := ⟨0, c0, rfl⟩
end Go.Proofs.YtphddbijdfmpjaaDoor.Pure
namespace Go.Proofs.YtphddbijdfmpjaaDoor.Q
open Go.RowKit Go.Lib Go.ChangeShapes Go.Proofs.YtphddbijdfmpjaaDoorW.PrintWords Go.Proofs.YtphddbijdfmpjaaDoorW.PrintLast
set_option linter.unusedVariables false
set_option linter.unusedSimpArgs false
theorem laid_one {P : Program} {w : World} {l : List (String × DataW Unit)} {n : String} {d : DataW Unit} (h : laidMetH P l w) (hl : (l.filter fun x => x.1 == n) = [(n, d)]) (hd : d.handleName? = none) : laidMet P [(n, d)] w := by
  have h1 := h.filter (fun x => x.1 == n)
  rw [hl] at h1
  have h2 := (laidMetH_iff.1 h1).1
  have e : ([(n, d)] : List (String × DataW Unit)).filter (fun x => x.2.handleName?.isNone) = [(n, d)] := by simp [List.filter_cons, hd]
  rw [e] at h2
  exact h2
theorem letters_laid {w : World} (h : laidMet Tryd.prog [("bursar/object.letters", Rows.laid_bursar_object_letters)] w) : w.cell? ⟨0, 4, none⟩ = some (.int .u8 66) :=
  (Lib.tabIs_of_head (k := .u8) (zs := [0, 81, 76, 79, 66]) (g := 0) (t := 97) (e := 5) (n := 5) (by kernel_rfl) (by kernel_rfl) Tryd.underlying97 Tryd.underlying5 (by kernel_rfl) (by kernel_rfl) h).cell (by kernel_rfl) 4 (by decide)
theorem glob_of {W : World} (hsh : W.ShapedOpen Tryd.prog) (h : laidMetH Tryd.prog Rows.accessGoesDownRow.laid W) : Glob W :=
  ⟨Tryd.laysM146.s1_3 W hsh, letters_laid (laid_one h rfl rfl)⟩
end Go.Proofs.YtphddbijdfmpjaaDoor.Q
namespace Go.Proofs.YtphddbijdfmpjaaDoor.accessOfMany
open Go.ChangeShapes Go.WideShapes Go.ChangeAt Go.RowKit
open Go.ChangeMaps (open_string shut_string)
set_option linter.unusedVariables false
set_option linter.unusedSimpArgs false
theorem own : ownKnob Tryd.prog.godebug = none := by kernel_rfl
theorem laidOut : laidOutB Tryd.prog = true := by kernel_rfl
set_option maxRecDepth 100000 in
theorem contract (H : Type) (enc : TypeId × Value → H) (W : World) (base : Nat) (args : Array Value) (ds gs : List (DataW H)) (before : List MemPlace)
    (hval0 : ∀ (j : Nat) t v, Tryd.f4.params[j]? = some t → args[j]? = some v → Value.okWide Tryd.prog W .any base t v)
    (hW : DataW.Whole enc Tryd.prog Tryd.f4.params.toList Rows.accessOfManySpec.vars false W args.toList ds gs before)
    (hk : Rows.uptoSmall H (ds ++ gs) = true)
    (hsh : W.ShapedOpen Tryd.prog)
    (hl : laidMetH Tryd.prog Rows.accessOfManyUptoRow.laid W)
    : Calls Tryd.prog 4 args W fun e W' => ∃ v, e = .returned v ∧ Rows.accessOfManySpec.post enc Tryd.prog Tryd.f4 false true false false W args v W' := by
  have hval : ∀ (j : Nat) t v, Tryd.f4.params[j]? = some t → args[j]? = some v → Value.okWide Tryd.prog W .any base t v := hval0
  have hW' := hW
  obtain ⟨p, q, hA0, hV, rfl, hfz, hnd⟩ := hW
  have hA : DataW.TrodAll enc Tryd.prog W 0 (fun _ => true) true Tryd.f4.params.toList args.toList ds p := hA0
  rw [Tryd.params4] at hA hval
  obtain ⟨v0, vs0, d0, ds0, p0, q0, hargs, rfl, rfl, h0, r0⟩ := trodAll_cons hA
  obtain ⟨rfl, rfl, rfl⟩ := trodAll_nil r0
  obtain rfl : args = #[v0] := by cases args; simp_all
  obtain ⟨rfl, rfl⟩ := trodVars_none hV
  obtain ⟨A0, len0, cap0, rfl⟩ := okWide_slice Tryd.underlying36 (hval 0 36 v0 rfl rfl)
  have k0 := h0
  have lt0 : ∀ x ∈ p0, x.block < W.heap.size := by obtain ⟨m, hm⟩ := k0; exact DataW.trod_lt m _ _ _ hm
  obtain ⟨l0, rfl, hr0, hc0, hz0, hm0⟩ := Q.row_open Tryd.underlying36 (by kernel_rfl) Q.opens27 h0
  have hb := of_decide_eq_true hk
  simp only [List.append_nil, List.cons_append, List.nil_append, Rows.uptoBulkAll, Rows.uptoBulk, Array.length_toList] at hb
  have c0 : Q.Small27 l0 := Q.small27 hz0 (by omega)
  obtain ⟨k, hp⟩ := Pure.AccessOfMany l0 c0
  refine (Q.bursarlaw21_AccessOfMany.calls k A0 cap0 l0 true W hr0 hc0 hp (Q.glob_of hsh hl)).mono fun e W' ⟨he, bel⟩ => ?_
  subst he
  exact ⟨_, rfl, _, _, _, [], _, [], hW', trodAll_mk1 (shut_bool Tryd.underlying4 _), (trodAll_cons_mk (Below.trod laidOut (by kernel_rfl) (of_decide_eq_true (by kernel_rfl)) k0 bel lt0) trodAll_mk0), rfl, bel.frame _, fun h => by cases h⟩
noncomputable def tab1 : Obj → Obj
  | .cells _ t frozen => .cells (Go.Pinned.utf8FirstZ.map fun (n : Nat) => Value.int .u8 (n : Int)).toArray t frozen
  | o => o
noncomputable def laidWorld (os : Os) : World :=
  { World.doorLaid Tryd.prog 138 os with heap := (World.doorLaid Tryd.prog 138 os).heap.modify 2 tab1 }
theorem laid_met (os : Os) : laidMet Tryd.prog Rows.accessOfManyRow.laid ((laidWorld os).forCall (fun _ _ => 0) ⟨#[], #[.slice none 0 0], []⟩).memory :=
  laidMet_of_run' 8 (by kernel_rfl) (by kernel_rfl)
theorem reads (os : Os) {H : Type} (enc : TypeId × Value → H) : ∃ places, DataW.whole enc Tryd.prog ((laidWorld os).forCall (fun _ _ => 0) ⟨#[], #[.slice none 0 0], []⟩).memory Tryd.f4.params.toList Rows.accessOfManySpec.vars false (#[.slice none 0 0] : Array Value).toList 8 = some ([.nil], [], places) :=
  ⟨[], by kernel_rfl⟩
set_option maxRecDepth 100000 in
theorem lifted (os : Os) (started : os.Started) (H : Type) (enc : TypeId × Value → H) (F : Stop.Interp) :
    ReturnsInHanded {} Tryd.checked os 4 .any ((Rows.OpenSpec.upto Rows.accessOfManySpec).preRow enc Tryd.prog Tryd.f4 Rows.accessOfManyUptoRow.domain false Rows.accessOfManyUptoRow.laid) (((Rows.OpenSpec.upto Rows.accessOfManySpec).at F).post enc Tryd.prog Tryd.f4 false true false false) := by
  obtain ⟨places, hx⟩ := reads os enc
  refine returnsInHanded_of_row (C := Tryd.checked) (s := Rows.OpenSpec.upto Rows.accessOfManySpec) own started (by kernel_rfl) Tryd.func4
    (witness_row_at (enc := enc) (C := Tryd.checked) false (laidWorld os) #[.slice none 0 0] rfl (by kernel_rfl) (by kernel_rfl) (by kernel_rfl)
      (OpenSpec.preRow_of_cond 8 hx (by kernel_rfl) (fun k hk => by cases hk; kernel_rfl) (by kernel_rfl) (laid_met os))) ?_
  intro W base args ds gs before hval hW _ hcond hsz hl hsh _
  exact contract H enc W base args ds gs before hval hW (hcond _ rfl) hsh hl
theorem said : Rows.AccessOfManyUptoSaid :=
  OpenClaim.holds_of_cond 4 Tryd.f4 rfl rfl rfl rfl rfl rfl rfl ⟨rfl, rfl, rfl, rfl, rfl⟩ rfl rfl rfl rfl rfl (by kernel_rfl) Tryd.func4 (by kernel_rfl)
    (of_decide_eq_true (by kernel_rfl)) (by unfold Func.isWrapper; first | (rw [if_pos (by decide +kernel)]; kernel_rfl) | (rw [if_neg (by decide +kernel)]; exact ⟨rfl, rfl⟩))
    (fun os started H enc _ F => by rw [OpenClaim.pre_eq_preRow]; exact lifted os started H enc F)
theorem plain (f : FuncId) (fn : Func) (hf : Tryd.pinned.checked.prog.funcNamed "bursar/bursarlaw21.AccessOfMany" = some f) (hfn : Tryd.pinned.checked.prog.funcs[f]? = some fn) :
    false = Tryd.pinned.checked.prog.looks [] ∧ ∀ (j : Nat) t, fn.params[j]? = some t → Tryd.pinned.checked.prog.wantsStandIn t = false := by
  obtain rfl : f = 4 := Option.some.inj ((show Tryd.prog.funcNamed "bursar/bursarlaw21.AccessOfMany" = some 4 by kernel_rfl).symm.trans hf) |>.symm
  obtain rfl : fn = Tryd.f4 := (Option.some.inj (Tryd.func4.symm.trans hfn)).symm
  refine ⟨by kernel_rfl, fun j t ht => ?_⟩
  rw [Tryd.params4] at ht
  have hall : ∀ x ∈ [36], Tryd.prog.wantsStandIn x = false := by
    intro x hx; simp only [List.mem_cons, List.mem_nil_iff, or_false] at hx; rcases hx with rfl <;> kernel_rfl
  exact hall t (by simpa using Array.mem_of_getElem? ht)
theorem card : Rows.AccessOfManyUptoCardSaid :=
  Claim7.holds_tied_plain_at .later [] _ _ _ _ said (fun _ h => by cases h) (by kernel_rfl) (fun _ h => by cases h) accessOfManyUpto_row_tie rfl ⟨rfl, rfl⟩ (by kernel_rfl) rfl plain (by kernel_rfl)
end Go.Proofs.YtphddbijdfmpjaaDoor.accessOfMany
namespace Go.Proofs.YtphddbijdfmpjaaDoor
theorem accessOfMany_holds : Rows.AccessOfManyUptoCardSaid := accessOfMany.card
end Go.Proofs.YtphddbijdfmpjaaDoor
