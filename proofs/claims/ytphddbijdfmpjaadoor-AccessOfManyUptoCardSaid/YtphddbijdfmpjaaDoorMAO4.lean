/- What the statement AccessOfManyUptoCardSaid rests on, part 4 of 5: walks and plain laws; what of the printer's words it leans on. -/
import Derived.Test.YtphddbijdfmpjaaDoorProg
import Derived.Test.YtphddbijdfmpjaaDoorMAO3
import Derived.ProofKit
import Derived.Shelf.SlGeneric
import Derived.Shelf.SlSortCmp.WholeK
import Derived.Ground.SlsfProg
import Derived.Ground.NamesProg
import Derived.Shelf.SlSortCmp.NoneTotal
namespace Go.Proofs.YtphddbijdfmpjaaDoor.Wr
open Go.RowKit Go.MapRaw Go.Proofs.YtphddbijdfmpjaaDoorW.PrintWords Go.Proofs.YtphddbijdfmpjaaDoorW.PrintLast Go.Proofs.YtphddbijdfmpjaaDoor.Q
open Go.ChangeMaps (setBlock)
set_option linter.unusedVariables false
set_option linter.unusedSimpArgs false
def setE (M : Tab) (b : Bnd) : Int := if formedB b = true then (if (getA (b.path, b.name) M).isNone = true ∧ 16 ≤ cnt b.path M then 194 else 0) else 130
def setM (M : Tab) (b : Bnd) : Tab := if setE M b = 0 then putA (b.path, b.name) b M else M
theorem put_mem {k : Key} {v : Bnd} {x : Key × Bnd} : ∀ {M : Tab}, x ∈ putA k v M → x = (k, v) ∨ x ∈ M
  | [], h => by simp [putA] at h; exact .inl h
  | p :: r, h => by
    unfold putA at h
    by_cases e : p.1 = k
    · rw [if_pos e] at h
      rcases List.mem_cons.1 h with h | h
      · exact .inl h
      · exact .inr (List.mem_cons_of_mem _ h)
    · rw [if_neg e] at h
      rcases List.mem_cons.1 h with h | h
      · exact .inr (by rw [h]; exact List.mem_cons_self)
      · exact (put_mem h).elim .inl fun h => .inr (List.mem_cons_of_mem _ h)
theorem put_len (k : Key) (v : Bnd) : ∀ M : Tab, (putA k v M).length ≤ M.length + 1
  | [] => by simp [putA]
  | p :: r => by
    have := put_len k v r
    unfold putA
    split
    · simp
    · simp only [List.length_cons]; omega
theorem setM_len (M : Tab) (b : Bnd) : (setM M b).length ≤ M.length + 1 := by
  unfold setM
  split
  · exact put_len _ _ M
  · omega
theorem setM_nodup {M : Tab} (b : Bnd) (h : (M.map (·.1)).Nodup) : ((setM M b).map (·.1)).Nodup := by
  unfold setM
  split
  · exact nodup_put _ _ M h
  · exact h
theorem setM_fits {M : Tab} (b : Bnd) (h : ∀ p ∈ M, p.1 = (p.2.path, p.2.name) ∧ formedB p.2 = true) : ∀ p ∈ setM M b, p.1 = (p.2.path, p.2.name) ∧ formedB p.2 = true := by
  unfold setM
  split
  · rename_i h0
    intro p hp
    rcases put_mem hp with rfl | hp
    · refine ⟨rfl, ?_⟩
      by_cases hf : formedB b = true
      · exact hf
      · unfold setE at h0; rw [if_neg hf] at h0; cases h0
    · exact h p hp
  · exact h
set_option maxRecDepth 100000 in
set_option maxHeartbeats 8000000 in
theorem set_ok (w : World) (t b : Nat) (M : Tab) (bd : Bnd) (hT : TB w t b M) (hG : Glob w) (hM : M.length ≤ 2513169434843) :
    Calls Tryd.prog 20 #[.pointer (some ⟨t, 0, none⟩), eV bd] w fun e w' => e = .returned (.int .i64 (setE M bd)) ∧ TB w' t b (setM M bd) ∧ Off b w w' := by
  obtain ⟨bp, bn, bs, bv⟩ := bd
  have hu27 := Tryd.underlying27
  have hu70 := Tryd.underlying70
  have key := valid_ok ⟨bp, bn, bs, bv⟩
  have hsl := setM_nodup (M := M) ⟨bp, bn, bs, bv⟩ hT.nodup
  have hsf := setM_fits (M := M) ⟨bp, bn, bs, bv⟩ hT.fits
  by_cases hf : formedB ⟨bp, bn, bs, bv⟩ = true
  · rw [if_pos hf] at key
    have hE : setE M ⟨bp, bn, bs, bv⟩ = if (getA (bp, bn) M).isNone = true ∧ 16 ≤ cnt bp M then 194 else 0 := by unfold setE; rw [if_pos hf]
    unfold eV at key ⊢
    have KEY := Lib.hid key
    have hal := (Below.refl w.heap.size w).alloc (Nat.le_refl _) (.cells #[.string bp, .string bn, .string bs, .int .i64 bv] 27)
    have hnew := blk_new w (.cells #[.string bp, .string bn, .string bs, .int .i64 bv] 27)
    have hG1 := Glob.below hG hal
    have hT1 := TB.below hT hal
    have AL := Lib.hid hal
    have NW := Lib.hid hnew
    have GL := Lib.hid hG1
    have TL := Lib.hid hT1
    have HE := Lib.hid hE
    have HM := Lib.hid hM
    have HSL := Lib.hid hsl
    have HSF := Lib.hid hsf
    clear key hG1 hal hnew hG hT1 hT hE hM hsl hsf hf
    go_enter Tryd.func20, Tryd.ntmps20
    go_upto_region 1 with fail
    generalize w.alloc _ = w1 at AL NW GL TL ⊢
    have hd0 := (blk_cell NW.out 0).trans rfl
    have hd1 := (blk_cell NW.out 1).trans rfl
    have hd2 := (blk_cell NW.out 2).trans rfl
    have hd3 := (blk_cell NW.out 3).trans rfl
    go_upto_region 4 with (go_at_call 33; refine (KEY.out _ GL.out).mono ?_; rintro e w2 ⟨rfl, hb2⟩; have B2 := Lib.hid (AL.out.trans (below_lower hb2 AL.out.size)); have N2 := Lib.hid (blk_below NW.out hb2); have T2 := Lib.hid (TB.below TL.out hb2); have he0 := (blk_cell N2.out 0).trans rfl; have he1 := (blk_cell N2.out 1).trans rfl; have he2 := (blk_cell N2.out 2).trans rfl; have he3 := (blk_cell N2.out 3).trans rfl; clear hb2)
    have hal3 := B2.out.alloc (Nat.le_trans (Nat.le_refl _) B2.out.size) (.cells #[.string bp, .string bn] 70)
    have hb3 := (Below.refl w2.heap.size w2).alloc (Nat.le_refl _) (.cells #[.string bp, .string bn] 70)
    have hT3 := TB.below T2.out hb3
    have hN3 := blk_below N2.out hb3
    have hP3 := blk_new w2 (.cells #[.string bp, .string bn] 70)
    have AL3 := Lib.hid hal3
    have TL3 := Lib.hid hT3
    have NW3 := Lib.hid hN3
    have NP3 := Lib.hid hP3
    have HPP := Lib.hid B2.out.size
    obtain ⟨pp, hpp⟩ : ∃ pp, pp = w2.heap.size := ⟨_, rfl⟩
    rw [← hpp] at NP3 HPP ⊢
    clear hal3 hb3 hT3 hN3 hP3 hpp T2 N2 B2 AL TL NW GL
    generalize w2.alloc _ = w3 at AL3 TL3 NW3 NP3 ⊢
    clear hd0 hd1 hd2 hd3 he0 he1 he2 he3
    have hz := Tryd.zeroValue27 w3
    have hlk := fun w' (h : Holds eK eV w' b M) => h.lookup kind_pl (fun a => ⟨a, rfl⟩) eqPl_iff 66 27 Tryd.underlying66 (bp, bn) _ (Tryd.zeroValue27 w') true
    obtain ⟨c, hc⟩ : ∃ c : Bnd, ∀ w', Holds eK eV w' b M → (Instr.lookup 66 (.map (some b)) (.agg #[.string bp, .string bn]) true).run Tryd.prog w' = .ok (.tuple #[.agg #[.string c.path, .string c.name, .string c.subject, .int .i64 c.verb], .bool (getA (bp, bn) M).isSome]) w' := by
      refine ⟨(getA (bp, bn) M).getD ⟨⟨#[]⟩, ⟨#[]⟩, ⟨#[]⟩, 0⟩, fun w' h => (hlk w' h).trans ?_⟩
      cases getA (bp, bn) M <;> rfl
    obtain ⟨there, hth⟩ : ∃ x, x = (getA (bp, bn) M).isSome := ⟨_, rfl⟩
    rw [← hth] at hc
    have HC := Lib.hid hc
    have HTH := Lib.hid hth
    clear hz hlk hc hth
    obtain ⟨cp, cn, cs, cv⟩ := c
    refine start_ (n := 12) (S := fun w' => w'.cell? ⟨t, 0, none⟩ = some (.map (some b)) ∧ w'.cell? ⟨pp, 0, none⟩ = some (.string bp) ∧ w'.cell? ⟨pp, 1, none⟩ = some (.string bn) ∧ (Instr.lookup 66 (.map (some b)) (.agg #[.string bp, .string bn]) true).run Tryd.prog w' = .ok (.tuple #[.agg #[.string cp, .string cn, .string cs, .int .i64 cv], .bool there]) w') (ds := []) (bl 0 12) (by kernel_rfl) rfl rfl ⟨TL3.out.cell, (blk_cell NP3.out 0).trans rfl, (blk_cell NP3.out 1).trans rfl, HC.out _ (Holds_move TL3.out.holds rfl)⟩ (fun hHeld => ?_)
    have hwd := drew_below w3
    have hT4 := TB.below TL3.out hwd
    have hN4 := blk_below NW3.out hwd
    have hP4 := blk_below NP3.out hwd
    have hA4 := AL3.out.trans (below_lower hwd AL3.out.size)
    have T4 := Lib.hid hT4
    have N4 := Lib.hid hN4
    have P4 := Lib.hid hP4
    have A4 := Lib.hid hA4
    clear hwd hT4 hN4 hP4 hA4 TL3 NW3 NP3 AL3
    generalize w3.drew = wd at T4 N4 P4 A4 hHeld ⊢
    refine pure_ (i := 0) (N := some 17) (v := ?_) (a' := ?_) (bl 1 11) rfl rfl (by kernel_rfl) (fun _ _ _ h => h) (Or.inl ⟨by rfl, ?_⟩) ?_ ?_
    rotate_left
    · intro w'
      go_simp
      with_reducible rfl
    rotate_left
    · simp only [Act.put, List.setIfInBounds_toArray, List.set_cons_zero, List.set_cons_succ, i64_w, i32_w]
      rfl
    refine pure_ (i := 1) (N := some 18) (v := ?_) (a' := ?_) (bl 2 10) rfl rfl (by kernel_rfl) (fun _ _ _ h => h) (Or.inl ⟨by rfl, ?_⟩) ?_ ?_
    rotate_left
    · intro w'
      go_simp
      with_reducible rfl
    rotate_left
    · simp only [Act.put, List.setIfInBounds_toArray, List.set_cons_zero, List.set_cons_succ, i64_w, i32_w]
      rfl
    refine pure_ (i := 2) (N := some 19) (v := ?_) (a' := ?_) (bl 3 9) rfl rfl (by kernel_rfl) (fun _ _ _ h => h) (Or.inl ⟨by rfl, ?_⟩) ?_ ?_
    rotate_left
    · intro w'
      go_simp
      with_reducible rfl
    rotate_left
    · simp only [Act.put, List.setIfInBounds_toArray, List.set_cons_zero, List.set_cons_succ, i64_w, i32_w]
      rfl
    refine take_ (i := 3) (N := some 20) (v := ?_) (a' := ?_) (bl 4 8) rfl rfl (by kernel_rfl) (fun _ _ _ h => h) (Or.inl ⟨by rfl, ?_⟩) hHeld ?_ ?_
    rotate_left
    · rintro w' ⟨s0, s1, s2, s3⟩
      go_simp
      with_reducible rfl
    rotate_left
    · simp only [Act.put, List.setIfInBounds_toArray, List.set_cons_zero, List.set_cons_succ, i64_w, i32_w]
      rfl
    refine take_ (i := 4) (N := some 21) (v := ?_) (a' := ?_) (bl 5 7) rfl rfl (by kernel_rfl) (fun _ _ _ h => h) (Or.inl ⟨by rfl, ?_⟩) hHeld ?_ ?_
    rotate_left
    · rintro w' ⟨s0, s1, s2, s3⟩
      go_simp
      with_reducible rfl
    rotate_left
    · simp only [Act.put, List.setIfInBounds_toArray, List.set_cons_zero, List.set_cons_succ, i64_w, i32_w]
      rfl
    refine take_ (i := 5) (N := some 22) (v := ?_) (a' := ?_) (bl 6 6) rfl rfl (by kernel_rfl) (fun _ _ _ h => h) (Or.inl ⟨by rfl, ?_⟩) hHeld ?_ ?_
    rotate_left
    · rintro w' ⟨s0, s1, s2, s3⟩
      go_simp
      with_reducible rfl
    rotate_left
    · simp only [Act.put, List.setIfInBounds_toArray, List.set_cons_zero, List.set_cons_succ, i64_w, i32_w]
      rfl
    refine pure_ (i := 6) (N := some 16) (v := ?_) (a' := ?_) (bl 7 5) rfl rfl (by kernel_rfl) (fun _ _ _ h => h) (Or.inl ⟨by rfl, ?_⟩) ?_ ?_
    rotate_left
    · intro w'
      go_simp
      with_reducible rfl
    rotate_left
    · simp only [Act.put, List.setIfInBounds_toArray, List.set_cons_zero, List.set_cons_succ, i64_w, i32_w]
      rfl
    refine pure_ (i := 7) (N := some 23) (v := ?_) (a' := ?_) (bl 8 4) rfl rfl (by kernel_rfl) (fun _ _ _ h => h) (Or.inl ⟨by rfl, ?_⟩) ?_ ?_
    rotate_left
    · intro w'
      go_simp
      with_reducible rfl
    rotate_left
    · simp only [Act.put, List.setIfInBounds_toArray, List.set_cons_zero, List.set_cons_succ, i64_w, i32_w]
      rfl
    refine pure_ (i := 8) (N := some 24) (v := ?_) (a' := ?_) (bl 9 3) rfl rfl (by kernel_rfl) (fun _ _ _ h => h) (Or.inl ⟨by rfl, ?_⟩) ?_ ?_
    rotate_left
    · intro w'
      go_simp
      with_reducible rfl
    rotate_left
    · simp only [Act.put, List.setIfInBounds_toArray, List.set_cons_zero, List.set_cons_succ, i64_w, i32_w]
      rfl
    refine one_ (i := 9) (N := some 6) (bl 10 2) rfl rfl (by kernel_rfl) (by decide) (fun K hK => ?_)
    refine value_ (v := .pointer (some ⟨wd.heap.size, 0, none⟩)) (w1 := wd.alloc (.cells #[.string ⟨#[]⟩, .string ⟨#[]⟩, .string ⟨#[]⟩, .int .i64 0] 27)) (by rfl) rfl ?_ ?_
    · go_simp
    have hal5 := (Below.refl wd.heap.size wd).alloc (Nat.le_refl _) (.cells #[.string ⟨#[]⟩, .string ⟨#[]⟩, .string ⟨#[]⟩, .int .i64 0] 27)
    have hT5 := TB.below T4.out hal5
    have hN5 := blk_below N4.out hal5
    have hP5 := blk_below P4.out hal5
    have hA5 := A4.out.trans (below_lower hal5 A4.out.size)
    have hQ5 := blk_new wd (.cells #[.string ⟨#[]⟩, .string ⟨#[]⟩, .string ⟨#[]⟩, .int .i64 0] 27)
    have T5 := Lib.hid hT5
    have N5 := Lib.hid hN5
    have P5 := Lib.hid hP5
    have A5 := Lib.hid hA5
    have Q5 := Lib.hid hQ5
    have HQ := Lib.hid (show t < wd.heap.size ∧ b < wd.heap.size ∧ w.heap.size < wd.heap.size ∧ pp < wd.heap.size from ⟨T4.out.lt.1, T4.out.lt.2, blk_lt N4.out, blk_lt P4.out⟩)
    have HA := Lib.hid A4.out.size
    obtain ⟨qq, hqq⟩ : ∃ qq, qq = wd.heap.size := ⟨_, rfl⟩
    rw [← hqq] at Q5 HQ HA ⊢
    clear hal5 hT5 hN5 hP5 hA5 hQ5 hqq T4 N4 P4 A4
    generalize wd.alloc _ = w5 at T5 N5 P5 A5 Q5 ⊢
    refine hK.out _ _ ⟨T5.out.cell, (blk_cell P5.out 0).trans rfl, (blk_cell P5.out 1).trans rfl, HC.out _ T5.out.holds⟩ (fun hHeld => ?_)
    clear hK K
    refine norm_ (a' := ?_) ?_ ?_
    rotate_left
    · show Act.put _ (some 6) _ = _
      simp only [Act.put, List.setIfInBounds_toArray, List.set_cons_zero, List.set_cons_succ, i64_w, i32_w]
      rfl
    refine one_ (i := 10) (N := none) (bl 11 1) rfl rfl (by kernel_rfl) (by decide) (fun K hK => ?_)
    have hf0 := blk_frozen Q5.out 0
    have hf1 := blk_frozen Q5.out 1
    have hf2 := blk_frozen Q5.out 2
    have hf3 := blk_frozen Q5.out 3
    have hcs0 := (blk_cell Q5.out 0).trans rfl
    have hcs1 := (blk_cell Q5.out 1).trans rfl
    have hcs2 := (blk_cell Q5.out 2).trans rfl
    have hcs3 := (blk_cell Q5.out 3).trans rfl
    refine skip_ (w1 := ?_) (by rfl) rfl ?_ ?_
    rotate_left
    · go_simp
      rfl
    have hbq := ((((Below.refl qq w5).setCell (p := ⟨qq, 0, none⟩) (Nat.le_refl qq) (.string cp)).setCell (p := ⟨qq, 1, none⟩) (Nat.le_refl qq) (.string cn)).setCell (p := ⟨qq, 2, none⟩) (Nat.le_refl qq) (.string cs)).setCell (p := ⟨qq, 3, none⟩) (Nat.le_refl qq) (.int .i64 cv)
    have T6 := Lib.hid (T5.out.belowB hbq HQ.out.1 HQ.out.2.1)
    have N6 := Lib.hid ((hbq.block _ HQ.out.2.2.1).trans N5.out)
    have P6 := Lib.hid ((hbq.block _ HQ.out.2.2.2).trans P5.out)
    have A6 := Lib.hid (A5.out.trans (below_lower hbq (Nat.le_of_lt HQ.out.2.2.1)))
    clear hf0 hf1 hf2 hf3 hcs0 hcs1 hcs2 hcs3 hbq T5 N5 P5 A5 Q5
    generalize World.setCell _ _ _ = w6 at T6 N6 P6 A6 ⊢
    refine hK.out _ _ ⟨T6.out.cell, (blk_cell P6.out 0).trans rfl, (blk_cell P6.out 1).trans rfl, HC.out _ T6.out.holds⟩ (fun hHeld => ?_)
    clear hK K
    refine pure_ (i := 11) (N := some 7) (v := ?_) (a' := ?_) (bl 12 0) rfl rfl (by kernel_rfl) (fun _ _ _ h => h) (Or.inl ⟨by rfl, ?_⟩) ?_ ?_
    rotate_left
    · intro w'
      go_simp
      with_reducible rfl
    rotate_left
    · simp only [Act.put, List.setIfInBounds_toArray, List.set_cons_zero, List.set_cons_succ, i64_w, i32_w]
      rfl
    refine done_ (by kernel_rfl) ?_
    clear hHeld HC HQ HA
    have hd0 := (blk_cell N6.out 0).trans rfl
    have hd1 := (blk_cell N6.out 1).trans rfl
    have hd2 := (blk_cell N6.out 2).trans rfl
    have hd3 := (blk_cell N6.out 3).trans rfl
    have hmany := many_ok w6 t b M bp T6.out.cell T6.out.holds HM.out
    have MANY := Lib.hid hmany
    clear hmany
    cases there
    · by_cases h16 : 16 ≤ cnt bp M
      · have hdec : decide ((cnt bp M : Int) ≥ 16) = true := decide_eq_true (by omega)
        have H16 := Lib.hid h16
        clear h16
        go_wp2_with (go_at_call 45; refine MANY.out.mono ?_; rintro e w7 ⟨rfl, hb7⟩; have B7 := Lib.hid hb7; clear hb7)
        go_ret
        have e1 : setE M ⟨bp, bn, bs, bv⟩ = 194 := by rw [HE.out, if_pos ⟨by simpa using HTH.out.symm, H16.out⟩]
        have e2 : setM M ⟨bp, bn, bs, bv⟩ = M := by unfold setM; rw [e1, if_neg (by decide)]
        exact ⟨by rw [e1] <;> rfl, by rw [e2]; exact T6.out.below B7.out, Off.of_below (A6.out.trans (below_lower B7.out A6.out.size))⟩
      · have hdec : decide ((cnt bp M : Int) ≥ 16) = false := decide_eq_false (by omega)
        have H16 := Lib.hid h16
        clear h16
        go_upto_region 7 with (go_at_call 45; refine MANY.out.mono ?_; rintro e w7 ⟨rfl, hb7⟩; have B7 := Lib.hid hb7; clear hb7)
        have T7 := Lib.hid (T6.out.below B7.out)
        have N7 := Lib.hid (blk_below N6.out B7.out)
        have P7 := Lib.hid (blk_below P6.out B7.out)
        have A7 := Lib.hid (A6.out.trans (below_lower B7.out A6.out.size))
        clear T6 N6 P6 A6 B7 MANY hdec
        have hE0 : setE M ⟨bp, bn, bs, bv⟩ = 0 := by rw [HE.out, if_neg (fun h => H16.out h.2)]
        have hM0 : setM M ⟨bp, bn, bs, bv⟩ = putA (bp, bn) ⟨bp, bn, bs, bv⟩ M := by unfold setM; rw [if_pos hE0]
        have HM0 := Lib.hid hM0
        have HE0 := Lib.hid hE0
        clear hE0 hM0 hd0 hd1 hd2 hd3
        refine start_ (n := 7) (S := fun w' => w'.cell? ⟨t, 0, none⟩ = some (.map (some b)) ∧ w'.cell? ⟨pp, 0, none⟩ = some (.string bp) ∧ w'.cell? ⟨pp, 1, none⟩ = some (.string bn) ∧ w'.cell? ⟨w.heap.size, 0, none⟩ = some (.string bp) ∧ w'.cell? ⟨w.heap.size, 1, none⟩ = some (.string bn) ∧ w'.cell? ⟨w.heap.size, 2, none⟩ = some (.string bs) ∧ w'.cell? ⟨w.heap.size, 3, none⟩ = some (.int .i64 bv)) (ds := [6]) (bl 0 7) (by kernel_rfl) rfl rfl ⟨T7.out.cell, (blk_cell P7.out 0).trans rfl, (blk_cell P7.out 1).trans rfl, (blk_cell N7.out 0).trans rfl, (blk_cell N7.out 1).trans rfl, (blk_cell N7.out 2).trans rfl, (blk_cell N7.out 3).trans rfl⟩ (fun hHeld => ?_)
        have hwd := drew_below w7
        have T8 := Lib.hid (TB.below T7.out hwd)
        have A8 := Lib.hid (A7.out.trans (below_lower hwd A7.out.size))
        clear hwd T7 N7 P7 A7
        generalize w7.drew = wd at T8 A8 hHeld ⊢
        refine pure_ (i := 0) (N := some 34) (v := ?_) (a' := ?_) (bl 1 6) rfl rfl (by kernel_rfl) (fun _ _ _ h => h) (Or.inl ⟨by rfl, ?_⟩) ?_ ?_
        rotate_left
        · intro w'
          go_simp
          with_reducible rfl
        rotate_left
        · simp only [Act.put, List.setIfInBounds_toArray, List.set_cons_zero, List.set_cons_succ, i64_w, i32_w]
          rfl
        refine pure_ (i := 1) (N := some 35) (v := ?_) (a' := ?_) (bl 2 5) rfl rfl (by kernel_rfl) (fun _ _ _ h => h) (Or.inl ⟨by rfl, ?_⟩) ?_ ?_
        rotate_left
        · intro w'
          go_simp
          with_reducible rfl
        rotate_left
        · simp only [Act.put, List.setIfInBounds_toArray, List.set_cons_zero, List.set_cons_succ, i64_w, i32_w]
          rfl
        refine pure_ (i := 2) (N := some 36) (v := ?_) (a' := ?_) (bl 3 4) rfl rfl (by kernel_rfl) (fun _ _ _ h => h) (Or.inl ⟨by rfl, ?_⟩) ?_ ?_
        rotate_left
        · intro w'
          go_simp
          with_reducible rfl
        rotate_left
        · simp only [Act.put, List.setIfInBounds_toArray, List.set_cons_zero, List.set_cons_succ, i64_w, i32_w]
          rfl
        refine take_ (i := 3) (N := some 37) (v := ?_) (a' := ?_) (bl 4 3) rfl rfl (by kernel_rfl) (fun _ _ _ h => h) (Or.inl ⟨by rfl, ?_⟩) hHeld ?_ ?_
        rotate_left
        · rintro w' ⟨s0, s1, s2, s3, s4, s5, s6⟩
          go_simp
          with_reducible rfl
        rotate_left
        · simp only [Act.put, List.setIfInBounds_toArray, List.set_cons_zero, List.set_cons_succ, i64_w, i32_w]
          rfl
        refine take_ (i := 4) (N := some 38) (v := ?_) (a' := ?_) (bl 5 2) rfl rfl (by kernel_rfl) (fun _ _ _ h => h) (Or.inl ⟨by rfl, ?_⟩) hHeld ?_ ?_
        rotate_left
        · rintro w' ⟨s0, s1, s2, s3, s4, s5, s6⟩
          go_simp
          with_reducible rfl
        rotate_left
        · simp only [Act.put, List.setIfInBounds_toArray, List.set_cons_zero, List.set_cons_succ, i64_w, i32_w]
          rfl
        refine take_ (i := 5) (N := some 39) (v := ?_) (a' := ?_) (bl 6 1) rfl rfl (by kernel_rfl) (fun _ _ _ h => h) (Or.inl ⟨by rfl, ?_⟩) hHeld ?_ ?_
        rotate_left
        · rintro w' ⟨s0, s1, s2, s3, s4, s5, s6⟩
          go_simp
          with_reducible rfl
        rotate_left
        · simp only [Act.put, List.setIfInBounds_toArray, List.set_cons_zero, List.set_cons_succ, i64_w, i32_w]
          rfl
        refine last_ (i := 6) (N := none) (bl 7 0) rfl rfl (by kernel_rfl) (by decide) (fun K hK => ?_)
        have hup := T8.out.holds.update (P := Tryd.prog) kind_pl (fun a => ⟨a, rfl⟩) eqPl_iff 66 27 Tryd.underlying66 (bp, bn) ⟨bp, bn, bs, bv⟩
        obtain ⟨o, hrun, hho⟩ := hup
        have HHO := Lib.hid hho
        clear hho
        unfold eK eV at hrun
        refine skip_ (w1 := setBlock wd b o) (by rfl) rfl ?_ ?_
        · go_simp
        refine hK.out _ _ ?_
        clear hK K hrun
        refine done_ (by kernel_rfl) ?_
        have TF := Lib.hid (TB.off T8.out (Off.set b wd o) HHO.out (by rw [← HM0.out]; exact HSL.out) (by rw [← HM0.out]; exact HSF.out))
        have OF := Lib.hid ((Off.of_below (b := b) A8.out).trans (Off.set b wd o))
        clear T8 A8 HHO
        generalize setBlock wd b o = wz at TF OF ⊢
        go_wp2
        go_ret
        exact ⟨by rw [HE0.out] <;> rfl, by rw [HM0.out]; exact TF.out, OF.out⟩
    · go_upto_region 7 with fail
      have T7 := Lib.hid T6.out
      have N7 := Lib.hid N6.out
      have P7 := Lib.hid P6.out
      have A7 := Lib.hid A6.out
      clear T6 N6 P6 A6 MANY
      obtain ⟨w7, hw7⟩ : ∃ w7, w7 = w6 := ⟨_, rfl⟩
      rw [← hw7] at T7 N7 P7 A7 ⊢
      clear hw7
      have hE0 : setE M ⟨bp, bn, bs, bv⟩ = 0 := by rw [HE.out, if_neg (fun h => by have h1 := HTH.out; have h2 := h.1; rw [Option.isNone_iff_eq_none] at h2; rw [h2] at h1; cases h1)]
      have hM0 : setM M ⟨bp, bn, bs, bv⟩ = putA (bp, bn) ⟨bp, bn, bs, bv⟩ M := by unfold setM; rw [if_pos hE0]
      have HM0 := Lib.hid hM0
      have HE0 := Lib.hid hE0
      clear hE0 hM0 hd0 hd1 hd2 hd3
      refine start_ (n := 7) (S := fun w' => w'.cell? ⟨t, 0, none⟩ = some (.map (some b)) ∧ w'.cell? ⟨pp, 0, none⟩ = some (.string bp) ∧ w'.cell? ⟨pp, 1, none⟩ = some (.string bn) ∧ w'.cell? ⟨w.heap.size, 0, none⟩ = some (.string bp) ∧ w'.cell? ⟨w.heap.size, 1, none⟩ = some (.string bn) ∧ w'.cell? ⟨w.heap.size, 2, none⟩ = some (.string bs) ∧ w'.cell? ⟨w.heap.size, 3, none⟩ = some (.int .i64 bv)) (ds := [6]) (bl 0 7) (by kernel_rfl) rfl rfl ⟨T7.out.cell, (blk_cell P7.out 0).trans rfl, (blk_cell P7.out 1).trans rfl, (blk_cell N7.out 0).trans rfl, (blk_cell N7.out 1).trans rfl, (blk_cell N7.out 2).trans rfl, (blk_cell N7.out 3).trans rfl⟩ (fun hHeld => ?_)
      have hwd := drew_below w7
      have T8 := Lib.hid (TB.below T7.out hwd)
      have A8 := Lib.hid (A7.out.trans (below_lower hwd A7.out.size))
      clear hwd T7 N7 P7 A7
      generalize w7.drew = wd at T8 A8 hHeld ⊢
      refine pure_ (i := 0) (N := some 34) (v := ?_) (a' := ?_) (bl 1 6) rfl rfl (by kernel_rfl) (fun _ _ _ h => h) (Or.inl ⟨by rfl, ?_⟩) ?_ ?_
      rotate_left
      · intro w'
        go_simp
        with_reducible rfl
      rotate_left
      · simp only [Act.put, List.setIfInBounds_toArray, List.set_cons_zero, List.set_cons_succ, i64_w, i32_w]
        rfl
      refine pure_ (i := 1) (N := some 35) (v := ?_) (a' := ?_) (bl 2 5) rfl rfl (by kernel_rfl) (fun _ _ _ h => h) (Or.inl ⟨by rfl, ?_⟩) ?_ ?_
      rotate_left
      · intro w'
        go_simp
        with_reducible rfl
      rotate_left
      · simp only [Act.put, List.setIfInBounds_toArray, List.set_cons_zero, List.set_cons_succ, i64_w, i32_w]
        rfl
      refine pure_ (i := 2) (N := some 36) (v := ?_) (a' := ?_) (bl 3 4) rfl rfl (by kernel_rfl) (fun _ _ _ h => h) (Or.inl ⟨by rfl, ?_⟩) ?_ ?_
      rotate_left
      · intro w'
        go_simp
        with_reducible rfl
      rotate_left
      · simp only [Act.put, List.setIfInBounds_toArray, List.set_cons_zero, List.set_cons_succ, i64_w, i32_w]
        rfl
      refine take_ (i := 3) (N := some 37) (v := ?_) (a' := ?_) (bl 4 3) rfl rfl (by kernel_rfl) (fun _ _ _ h => h) (Or.inl ⟨by rfl, ?_⟩) hHeld ?_ ?_
      rotate_left
      · rintro w' ⟨s0, s1, s2, s3, s4, s5, s6⟩
        go_simp
        with_reducible rfl
      rotate_left
      · simp only [Act.put, List.setIfInBounds_toArray, List.set_cons_zero, List.set_cons_succ, i64_w, i32_w]
        rfl
      refine take_ (i := 4) (N := some 38) (v := ?_) (a' := ?_) (bl 5 2) rfl rfl (by kernel_rfl) (fun _ _ _ h => h) (Or.inl ⟨by rfl, ?_⟩) hHeld ?_ ?_
      rotate_left
      · rintro w' ⟨s0, s1, s2, s3, s4, s5, s6⟩
        go_simp
        with_reducible rfl
      rotate_left
      · simp only [Act.put, List.setIfInBounds_toArray, List.set_cons_zero, List.set_cons_succ, i64_w, i32_w]
        rfl
      refine take_ (i := 5) (N := some 39) (v := ?_) (a' := ?_) (bl 6 1) rfl rfl (by kernel_rfl) (fun _ _ _ h => h) (Or.inl ⟨by rfl, ?_⟩) hHeld ?_ ?_
      rotate_left
      · rintro w' ⟨s0, s1, s2, s3, s4, s5, s6⟩
        go_simp
        with_reducible rfl
      rotate_left
      · simp only [Act.put, List.setIfInBounds_toArray, List.set_cons_zero, List.set_cons_succ, i64_w, i32_w]
        rfl
      refine last_ (i := 6) (N := none) (bl 7 0) rfl rfl (by kernel_rfl) (by decide) (fun K hK => ?_)
      have hup := T8.out.holds.update (P := Tryd.prog) kind_pl (fun a => ⟨a, rfl⟩) eqPl_iff 66 27 Tryd.underlying66 (bp, bn) ⟨bp, bn, bs, bv⟩
      obtain ⟨o, hrun, hho⟩ := hup
      have HHO := Lib.hid hho
      clear hho
      unfold eK eV at hrun
      refine skip_ (w1 := setBlock wd b o) (by rfl) rfl ?_ ?_
      · go_simp
      refine hK.out _ _ ?_
      clear hK K hrun
      refine done_ (by kernel_rfl) ?_
      have TF := Lib.hid (TB.off T8.out (Off.set b wd o) HHO.out (by rw [← HM0.out]; exact HSL.out) (by rw [← HM0.out]; exact HSF.out))
      have OF := Lib.hid ((Off.of_below (b := b) A8.out).trans (Off.set b wd o))
      clear T8 A8 HHO
      generalize setBlock wd b o = wz at TF OF ⊢
      go_wp2
      go_ret
      exact ⟨by rw [HE0.out] <;> rfl, by rw [HM0.out]; exact TF.out, OF.out⟩
  · rw [if_neg hf] at key
    have hE : setE M ⟨bp, bn, bs, bv⟩ = 130 := by unfold setE; rw [if_neg hf]
    have hM0 : setM M ⟨bp, bn, bs, bv⟩ = M := by unfold setM; rw [hE, if_neg (by decide)]
    rw [hE, hM0]
    clear hE hM0 hsl hsf hM hf
    unfold eV at key ⊢
    have KEY := Lib.hid key
    have hal := (Below.refl w.heap.size w).alloc (Nat.le_refl _) (.cells #[.string bp, .string bn, .string bs, .int .i64 bv] 27)
    have hnew := blk_new w (.cells #[.string bp, .string bn, .string bs, .int .i64 bv] 27)
    have hG1 := Glob.below hG hal
    have hT1 := TB.below hT hal
    have AL := Lib.hid hal
    have NW := Lib.hid hnew
    have GL := Lib.hid hG1
    have TL := Lib.hid hT1
    clear key hG1 hal hnew hG hT1 hT
    go_enter Tryd.func20, Tryd.ntmps20
    go_upto_region 1 with fail
    generalize w.alloc _ = w1 at AL NW GL TL ⊢
    have hd0 := (blk_cell NW.out 0).trans rfl
    have hd1 := (blk_cell NW.out 1).trans rfl
    have hd2 := (blk_cell NW.out 2).trans rfl
    have hd3 := (blk_cell NW.out 3).trans rfl
    go_wp2_with (go_at_call 33; refine (KEY.out _ GL.out).mono ?_; rintro e w2 ⟨rfl, hb2⟩; have B2 := Lib.hid hb2; clear hb2)
    go_ret
    exact ⟨rfl, TL.out.below B2.out, Off.of_below (AL.out.trans (below_lower B2.out AL.out.size))⟩
end Go.Proofs.YtphddbijdfmpjaaDoor.Wr
namespace Go.Proofs.YtphddbijdfmpjaaDoor.Wr
open Go.RowKit Go.MapRaw Go.Proofs.YtphddbijdfmpjaaDoorW.PrintWords Go.Proofs.YtphddbijdfmpjaaDoorW.PrintLast Go.Proofs.YtphddbijdfmpjaaDoor.Q
open Go.ChangeMaps (setBlock)
set_option linter.unusedVariables false
set_option linter.unusedSimpArgs false
def dropE (M : Tab) (path name : ByteArray) : Int := if pathS path = 0 then (if (getA (path, name) M).isSome = true then 0 else 191) else 41
def dropM (M : Tab) (path name : ByteArray) : Tab := if dropE M path name = 0 then delA (path, name) M else M
end Go.Proofs.YtphddbijdfmpjaaDoor.Wr
namespace Go.Proofs.YtphddbijdfmpjaaDoor.Wr
open Go.RowKit Go.MapRaw Go.Proofs.YtphddbijdfmpjaaDoorW.PrintWords Go.Proofs.YtphddbijdfmpjaaDoorW.PrintLast Go.Proofs.YtphddbijdfmpjaaDoor.Q
open Go.ChangeMaps (setBlock)
set_option linter.unusedVariables false
set_option linter.unusedSimpArgs false
theorem Off.alloc {b : Nat} {u w : World} (h : Off b u w) (o : Obj) : Off b u (w.alloc o) := h.trans (Off.of_below ((Below.refl _ _).alloc (Nat.le_refl _) o))
instance memKey (k : Key) (l : List Key) : Decidable (k ∈ l) := decidable_of_iff (l.any (fun y => decide (y = k)) = true) (by simp)
end Go.Proofs.YtphddbijdfmpjaaDoor.Wr
namespace Go.Proofs.YtphddbijdfmpjaaDoor.Q
open Go.RowKit Go.Proofs.YtphddbijdfmpjaaDoorW.PrintWords Go.Proofs.YtphddbijdfmpjaaDoorW.PrintLast Go.Proofs.YtphddbijdfmpjaaDoorW.PrintMore
attribute [local go_sem] max2_int min2_int max_two min_two max_three min_three max_four min_four   -- for this text's walks alone
set_option linter.unusedVariables false
set_option linter.unusedSimpArgs false
def access_isVerb.f (a0 : Int) : Option (Bool) := if a0 ≥ 0 then (some (decide (a0 ≤ 3))) else (some false)
end Go.Proofs.YtphddbijdfmpjaaDoor.Q
namespace Go.Proofs.YtphddbijdfmpjaaDoor.Wr
open Go.RowKit Go.MapRaw Go.Proofs.YtphddbijdfmpjaaDoorW.PrintWords Go.Proofs.YtphddbijdfmpjaaDoorW.PrintLast Go.Proofs.YtphddbijdfmpjaaDoor.Q
open Go.ChangeMaps (setBlock)
set_option linter.unusedVariables false
set_option linter.unusedSimpArgs false
def zb : Bnd := ⟨⟨#[]⟩, ⟨#[]⟩, ⟨#[]⟩, 0⟩
structure Best (M L : Tab) (s : ByteArray) (v : Int) (q : ByteArray) (c : Bnd) (fd : Bool) : Prop where
  seen : ∀ x ∈ M, Mat s v q x → x ∈ L ∨ (fd = true ∧ Op.bytesLess x.2.name.toList c.name.toList = false)
  is : fd = true → ∃ x ∈ M, x.2 = c ∧ Mat s v q x
  not : fd = false → c = zb
theorem Best.skip {M A B : Tab} {x : Key × Bnd} {s : ByteArray} {v : Int} {q : ByteArray} {c : Bnd} {fd : Bool} (h : Best M (A ++ x :: B) s v q c fd) (hx : Mat s v q x → fd = true ∧ Op.bytesLess x.2.name.toList c.name.toList = false) : Best M (A ++ B) s v q c fd :=
  ⟨fun y hy hm => (by
    rcases h.seen y hy hm with hl | hl
    · rcases List.mem_append.1 hl with hl | hl
      · exact .inl (List.mem_append.2 (.inl hl))
      · rcases List.mem_cons.1 hl with rfl | hl
        · exact .inr (hx hm)
        · exact .inl (List.mem_append.2 (.inr hl))
    · exact .inr hl), h.is, h.not⟩
theorem Best.take {M A B : Tab} {x : Key × Bnd} {s : ByteArray} {v : Int} {q : ByteArray} {c : Bnd} {fd : Bool} (h : Best M (A ++ x :: B) s v q c fd) (hxM : x ∈ M) (hm : Mat s v q x) (hx : fd = true → Op.bytesLess x.2.name.toList c.name.toList = true) : Best M (A ++ B) s v q x.2 true :=
  ⟨fun y hy hmy => (by
    rcases h.seen y hy hmy with hl | ⟨hf, hl⟩
    · rcases List.mem_append.1 hl with hl | hl
      · exact .inl (List.mem_append.2 (.inl hl))
      · rcases List.mem_cons.1 hl with rfl | hl
        · exact .inr ⟨rfl, less_irrefl _⟩
        · exact .inl (List.mem_append.2 (.inr hl))
    · refine .inr ⟨rfl, ?_⟩
      cases hb : Op.bytesLess y.2.name.toList x.2.name.toList with
      | false => rfl
      | true => rw [less_trans _ _ _ hb (hx hf)] at hl; cases hl), fun _ => ⟨x, hxM, rfl, hm⟩, fun h => (by cases h)⟩
theorem Best.none {M : Tab} {s : ByteArray} {v : Int} {q : ByteArray} {c : Bnd} (h : Best M [] s v q c false) : hasAt M s v q = false := by
  rw [Bool.eq_false_iff]
  intro hh
  obtain ⟨x, hx, hm⟩ := (hasAt_iff M s v q).1 hh
  rcases h.seen x hx hm with hl | ⟨hl, _⟩
  · cases hl
  · cases hl
end Go.Proofs.YtphddbijdfmpjaaDoor.Wr
namespace Go.Proofs.YtphddbijdfmpjaaDoor.Wr
open Go.RowKit Go.MapRaw Go.Proofs.YtphddbijdfmpjaaDoorW.PrintWords Go.Proofs.YtphddbijdfmpjaaDoorW.PrintLast Go.Proofs.YtphddbijdfmpjaaDoor.Q
open Go.ChangeMaps (setBlock)
set_option linter.unusedVariables false
set_option linter.unusedSimpArgs false
theorem below_put4 {B : Nat} {u w : World} {g : Nat} {b0 b1 b2 b3 : Value} (h : Below B u w) (hg : B ≤ g) :
    Below B u ((((w.setCell ⟨g, 0, none⟩ b0).setCell ⟨g, 1, none⟩ b1).setCell ⟨g, 2, none⟩ b2).setCell ⟨g, 3, none⟩ b3) :=
  (((h.setCell (p := ⟨g, 0, none⟩) hg b0).setCell (p := ⟨g, 1, none⟩) hg b1).setCell (p := ⟨g, 2, none⟩) hg b2).setCell (p := ⟨g, 3, none⟩) hg b3
end Go.Proofs.YtphddbijdfmpjaaDoor.Wr
namespace Go.Proofs.YtphddbijdfmpjaaDoor.Wr
end Go.Proofs.YtphddbijdfmpjaaDoor.Wr
namespace Go.Proofs.YtphddbijdfmpjaaDoor.Wr
open Go.RowKit Go.MapRaw Go.Proofs.YtphddbijdfmpjaaDoorW.PrintWords Go.Proofs.YtphddbijdfmpjaaDoorW.PrintLast Go.Proofs.YtphddbijdfmpjaaDoor.Q
open Go.ChangeMaps (setBlock)
set_option linter.unusedVariables false
set_option linter.unusedSimpArgs false
def b0 : Bnd := ⟨⟨#[47, 97]⟩, ⟨#[119]⟩, ⟨#[97, 110, 110]⟩, 1⟩
end Go.Proofs.YtphddbijdfmpjaaDoor.Wr
namespace Go.Proofs.YtphddbijdfmpjaaDoor.Wr
end Go.Proofs.YtphddbijdfmpjaaDoor.Wr
namespace Go.Proofs.YtphddbijdfmpjaaDoor.Wr
end Go.Proofs.YtphddbijdfmpjaaDoor.Wr
namespace Go.Proofs.YtphddbijdfmpjaaDoor.Q
open Go.RowKit Go.Proofs.YtphddbijdfmpjaaDoorW.PrintWords Go.Proofs.YtphddbijdfmpjaaDoorW.PrintLast Go.ChangeShapes Go.Proofs.YtphddbijdfmpjaaDoor.Wr
set_option linter.unusedVariables false
set_option linter.unusedSimpArgs false
def k27 : Kd Bnd := Kd.iso (Kd.pair Kd.string (Kd.pair Kd.string (Kd.pair Kd.string (Kd.int .i64)))) (fun b => (b.path, b.name, b.subject, b.verb))
theorem add_off (ad : Addr) (n j : Nat) (hj : j ≠ 0) : ad.add (n + j) = ⟨(ad.add n).block, (ad.add n).off + j, none⟩ := by
  unfold Addr.add
  by_cases hn : n = 0
  · subst hn; simp [hj]
  · simp [hn, Nat.add_assoc]
def StrD {H : Type} (x : DataW H) (s : ByteArray) : Prop := x = .lit (.string s.data.toList) ∧ s.size ≤ maxLen
def IntD {H : Type} (x : DataW H) (n : Int) : Prop := x = .lit (.int .i64 n) ∧ (Lit.int .i64 n).wf = true
def BnD {H : Type} (x : DataW H) (b : Bnd) : Prop := ∃ l, x = .agg l ∧ ∃ y r, l = y :: r ∧ StrD y b.path ∧ ∃ y r1, r = y :: r1 ∧ StrD y b.name ∧ ∃ y r2, r1 = y :: r2 ∧ StrD y b.subject ∧ ∃ y, r2 = [y] ∧ IntD y b.verb
section
variable {H : Type} {enc : TypeId × Value → H} {w : World} {base : Nat} {spare : Nat → Bool} {held : Bool}
theorem opens27 : Opens enc Tryd.prog w base spare held 27 k27 BnD :=
  opens_struct (fun b : Bnd => (b.path, b.name, b.subject, b.verb)) (fun a => ⟨a.1, a.2.1, a.2.2.1, a.2.2.2⟩) (fun _ => rfl) Tryd.underlying27 (by kernel_rfl)
    (opens_cons rfl (by kernel_rfl) (opens_string Tryd.underlying9) (opens_cons rfl (by kernel_rfl) (opens_string Tryd.underlying9) (opens_cons rfl (by kernel_rfl) (opens_string Tryd.underlying9) (opens_one rfl (by kernel_rfl) (opens_int Tryd.underlying3)))))
end
end Go.Proofs.YtphddbijdfmpjaaDoor.Q
namespace Go.Proofs
open Go.Shelf
def Tryd.sortB_ren : Go.Shelf.Ren := ⟨fun | 6 => 38 | 15 => 57 | 14 => 56 | 28 => 82 | 29 => 83 | 20 => 74 | 21 => 75 | 22 => 76 | 23 => 77 | 24 => 78 | 25 => 79 | 26 => 80 | 27 => 81 | 46 => 94 | 47 => 95 | 48 => 96 | 49 => 97 | 50 => 98 | 57 => 102 | n => n, fun | 22 => 36 | 24 => 27 | 25 => 77 | 3 => 3 | 39 => 89 | 0 => 0 | 53 => 110 | 55 => 112 | 4 => 4 | 46 => 103 | 45 => 102 | 50 => 107 | 5 => 5 | 9 => 9 | 66 => 123 | 70 => 127 | 76 => 131 | 77 => 132 | n => n, fun | n => n⟩
theorem Tryd.sortB : Go.Proofs.SlLaysF0.n6 Tryd.prog Tryd.sortB_ren := {
  mixed := by kernel_rfl
  f6 := ⟨Tryd.f38.name, by decide, Tryd.func38.trans (congrArg some (by kernel_rfl))⟩
  f14 := ⟨Tryd.f56.name, by decide, Tryd.func56.trans (congrArg some (by kernel_rfl))⟩
  f15 := Tryd.func57.trans (congrArg some (by kernel_rfl))
  f20 := ⟨Tryd.f74.name, by decide, Tryd.func74.trans (congrArg some (by kernel_rfl))⟩
  f21 := ⟨Tryd.f75.name, by decide, Tryd.func75.trans (congrArg some (by kernel_rfl))⟩
  f22 := ⟨Tryd.f76.name, by decide, Tryd.func76.trans (congrArg some (by kernel_rfl))⟩
  f23 := ⟨Tryd.f77.name, by decide, Tryd.func77.trans (congrArg some (by kernel_rfl))⟩
  f24 := ⟨Tryd.f78.name, by decide, Tryd.func78.trans (congrArg some (by kernel_rfl))⟩
  f25 := ⟨Tryd.f79.name, by decide, Tryd.func79.trans (congrArg some (by kernel_rfl))⟩
  f26 := ⟨Tryd.f80.name, by decide, Tryd.func80.trans (congrArg some (by kernel_rfl))⟩
  f27 := ⟨Tryd.f81.name, by decide, Tryd.func81.trans (congrArg some (by kernel_rfl))⟩
  f28 := Tryd.func82.trans (congrArg some (by kernel_rfl))
  f29 := Tryd.func83.trans (congrArg some (by kernel_rfl))
  f46 := ⟨Tryd.f94.name, by decide, Tryd.func94.trans (congrArg some (by kernel_rfl))⟩
  f47 := Tryd.func95.trans (congrArg some (by kernel_rfl))
  f48 := Tryd.func96.trans (congrArg some (by kernel_rfl))
  f49 := ⟨Tryd.f97.name, by decide, Tryd.func97.trans (congrArg some (by kernel_rfl))⟩
  f50 := ⟨Tryd.f98.name, by decide, Tryd.func98.trans (congrArg some (by kernel_rfl))⟩
  f57 := ⟨Tryd.f102.name, by decide, Tryd.func102.trans (congrArg some (by kernel_rfl))⟩
  t0 := Tryd.underlying0
  a0 := Tryd.isAgg0
  z0 := Tryd.sizeOf0
  v0 := Tryd.zeroValue0
  t3 := Tryd.underlying3
  a3 := Tryd.isAgg3
  z3 := Tryd.sizeOf3
  v3 := Tryd.zeroValue3
  t4 := Tryd.underlying4
  a4 := Tryd.isAgg4
  z4 := Tryd.sizeOf4
  v4 := Tryd.zeroValue4
  t5 := Tryd.underlying5
  a5 := Tryd.isAgg5
  z5 := Tryd.sizeOf5
  v5 := Tryd.zeroValue5
  t9 := Tryd.underlying9
  a9 := Tryd.isAgg9
  z9 := Tryd.sizeOf9
  v9 := Tryd.zeroValue9
  t22 := Tryd.underlying36
  a22 := Tryd.isAgg36
  z22 := Tryd.sizeOf36
  v22 := Tryd.zeroValue36
  t25 := Tryd.underlying77
  a25 := Tryd.isAgg77
  z25 := Tryd.sizeOf77
  v25 := Tryd.zeroValue77
  t39 := Tryd.underlying89
  a39 := Tryd.isAgg89
  z39 := Tryd.sizeOf89
  v39 := Tryd.zeroValue89
  t45 := Tryd.underlying102
  a45 := Tryd.isAgg102
  z45 := Tryd.sizeOf102
  v45 := Tryd.zeroValue102
  t46 := Tryd.underlying103
  a46 := Tryd.isAgg103
  z46 := Tryd.sizeOf103
  v46 := Tryd.zeroValue103
  t50 := Tryd.underlying107
  a50 := Tryd.isAgg107
  z50 := Tryd.sizeOf107
  v50 := Tryd.zeroValue107
  t53 := Tryd.underlying110
  a53 := Tryd.isAgg110
  z53 := Tryd.sizeOf110
  v53 := Tryd.zeroValue110
  t55 := Tryd.underlying112
  a55 := Tryd.isAgg112
  z55 := Tryd.sizeOf112
  v55 := Tryd.zeroValue112
  t66 := Tryd.underlying123
  a66 := Tryd.isAgg123
  z66 := Tryd.sizeOf123
  v66 := Tryd.zeroValue123
  t70 := Tryd.underlying127
  a70 := Tryd.isAgg127
  z70 := Tryd.sizeOf127
  v70 := Tryd.zeroValue127
  t76 := Tryd.underlying131
  a76 := Tryd.isAgg131
  z76 := Tryd.sizeOf131
  v76 := Tryd.zeroValue131
  t77 := Tryd.underlying132
  a77 := Tryd.isAgg132
  z77 := Tryd.sizeOf132
  v77 := Tryd.zeroValue132 }
end Go.Proofs
namespace Go.Proofs.YtphddbijdfmpjaaDoor.Q
open Go.RowKit Go.Lib Go.Sort Go.Shelf Go.Proofs.YtphddbijdfmpjaaDoorW.PrintWords Go.Proofs.YtphddbijdfmpjaaDoorW.PrintLast Go.Proofs.YtphddbijdfmpjaaDoor.Wr
set_option linter.unusedVariables false
set_option linter.unusedSimpArgs false
instance : Inhabited Bnd := ⟨zb⟩
def encB (x : Bnd) : List Value := [.string x.path, .string x.name, .string x.subject, .int .i64 x.verb]
theorem ltB (x y : Bnd) : ltOf cmpB x y = decide (cmpB x y < 0) := rfl
theorem swoB : SWO (ltOf cmpB) where
  irrefl x := by rw [ltB, ordB.self]; rfl
  trans x y z h1 h2 := by
    rw [ltB, decide_eq_true_eq] at *
    exact ordB.lt_le h1 (by omega)
  ntrans x y z h1 h2 := by
    rw [ltB, decide_eq_false_iff_not] at *
    have e1 := ordB.neg x y
    have e2 := ordB.neg y z
    have e3 := ordB.neg x z
    have := ordB.le z y x (by omega) (by omega)
    omega
theorem glob_size {w : World} (h : Glob w) : 2 ≤ w.heap.size := by
  obtain ⟨m, hm⟩ := h.maxLen
  by_cases h1 : 1 < w.heap.size
  · exact h1
  · have : w.heap[1]? = none := Array.getElem?_eq_none (by omega)
    simp [World.cell?, this] at hm
theorem glob_grown {w w' : World} {g : Nat} (h : Glob w) (hg : w.grownBy w' (some g)) (h2 : 2 ≤ g) : Glob w' := by
  have hs := glob_size h
  obtain ⟨m, hm⟩ := h.maxLen
  refine ⟨⟨m, ?_⟩, ?_⟩
  · rw [World.cell?_of_block (w := w) (hg.block 1 (by omega) (fun e => by cases e; omega))]; exact hm
  · rw [World.cell?_of_block (w := w) (hg.block 0 (by omega) (fun e => by cases e; omega))]; exact h.letterB
theorem flat_get {xs : List Bnd} {t : Nat} (ht : t < xs.length * 4) : (flatK encB 4 xs.toArray).toList[t]? = (encB (xs.getD (t / 4) zb))[t % 4]? := by
  have hj : t / 4 < xs.length := by omega
  have h1 : (flatK encB 4 xs.toArray).toList[t]? = some ((encB (xs.toArray[t / 4]!))[t % 4]!) := by
    rw [Array.getElem?_toList]
    simp [flatK, ht]
  have h2 : xs.toArray[t / 4]! = xs.getD (t / 4) zb := by
    simp [List.getD_eq_getElem?_getD, hj]
  rw [h1, h2]
  have h3 : t % 4 = 0 ∨ t % 4 = 1 ∨ t % 4 = 2 ∨ t % 4 = 3 := by omega
  rcases h3 with h3 | h3 | h3 | h3 <;> rw [h3] <;> rfl
theorem flat_len (xs : List Bnd) : (flatK encB 4 xs.toArray).toList.length = xs.length * 4 := by simp
theorem k27_openM {w : World} {base : Nat} {ok : Nat → Prop} {x : Bnd} {cs : List Value} (h : k27.M w base ok x cs) : cs = encB x := by
  obtain ⟨b0, e0, rfl, g0, b1, e1, rfl, g1, b2, e2, rfl, g2, g3⟩ := h
  have g0' : b0 = [.string x.path] := g0
  have g1' : b1 = [.string x.name] := g1
  have g2' : b2 = [.string x.subject] := g2
  have g3' : e2 = [.int .i64 x.verb] := g3
  subst g0' g1' g2' g3'
  rfl
theorem k27_mkM (w : World) (base : Nat) (ok : Nat → Prop) (x : Bnd) : k27.M w base ok x (encB x) :=
  ⟨[.string x.path], [.string x.name, .string x.subject, .int .i64 x.verb], rfl, rfl, [.string x.name], [.string x.subject, .int .i64 x.verb], rfl, rfl, [.string x.subject], [.int .i64 x.verb], rfl, rfl, rfl⟩
theorem inner27 {w : World} {base : Nat} {ok : Nat → Prop} {xs : List Bnd} {inner : List Value} (h : Reps (k27.M w base ok) 4 xs inner) : inner = (flatK encB 4 xs.toArray).toList := by
  apply List.ext_getElem?
  intro t
  by_cases ht : t < xs.length * 4
  · have hj : t / 4 < xs.length := by omega
    have hk := k27_openM (h.2 (t / 4) _ (List.getElem?_eq_getElem hj))
    have h1 : inner[t]? = ((inner.drop (t / 4 * 4)).take 4)[t % 4]? := by
      rw [List.getElem?_take_of_lt (by omega), List.getElem?_drop]
      congr 1
      omega
    rw [h1, hk, flat_get ht]
    simp [encB, List.getD_eq_getElem?_getD, hj]
  · rw [List.getElem?_eq_none (by rw [h.1]; omega), List.getElem?_eq_none (by rw [flat_len]; omega)]
theorem reps27 (w : World) (base : Nat) (ok : Nat → Prop) (xs : List Bnd) : Reps (k27.M w base ok) 4 xs (flatK encB 4 xs.toArray).toList := by
  refine ⟨flat_len xs, fun j p hj => ?_⟩
  obtain ⟨hl, rfl⟩ := List.getElem?_eq_some_iff.1 hj
  have e : (((flatK encB 4 xs.toArray).toList.drop (j * 4)).take 4) = encB xs[j] := by
    apply List.ext_getElem?
    intro t
    by_cases ht : t < 4
    · rw [List.getElem?_take_of_lt ht, List.getElem?_drop, flat_get (by omega)]
      have h1 : (j * 4 + t) / 4 = j := by omega
      have h2 : (j * 4 + t) % 4 = t := by omega
      rw [h1, h2]
      simp [List.getD_eq_getElem?_getD, hl]
    · rw [List.getElem?_take_eq_none (by omega), List.getElem?_eq_none (by simp [encB]; omega)]
  rw [e]
  exact k27_mkM w base ok _
theorem holds27 {w : World} {g : Nat} {cur : Array Value} {e : TypeId} {xs : List Bnd} (hb : w.heap[g]? = some (.cells cur e (0, 0))) (ht : cur.toList.take (xs.length * 4) = (flatK encB 4 xs.toArray).toList) : HoldsK encB 4 w g 0 xs.toArray := by
  unfold HoldsK
  intro j hj
  have hj' : j < xs.length * 4 := by simpa using hj
  refine ⟨?_, by simp [World.frozen?, hb]⟩
  have h1 : (cur.toList.take (xs.length * 4))[j]? = (flatK encB 4 xs.toArray).toList[j]? := by rw [ht]
  rw [List.getElem?_take_of_lt hj'] at h1
  simp only [World.cell?, hb, Nat.zero_add]
  simp only [Option.isSome_none, Bool.false_eq_true, if_false]
  rw [← Array.getElem?_toList, h1, Array.getElem?_toList, Array.getElem?_eq_getElem hj, getElem!_pos _ j hj]
  rfl
theorem heap27 {w : World} {g n : Nat} {os : Array Obj} {cur : Array Value} {e : TypeId} {fr : Nat × Nat} (d : Array Bnd) (hb : w.heap[g]? = some (.cells cur e fr)) :
    (sortWorldK encB 4 w g 0 n d os).heap[g]? = some (.cells (putCells id 0 (flatK encB 4 d) cur) e fr) := by
  have hg : g < w.heap.size := (Array.getElem?_eq_some_iff.1 hb).1
  unfold sortWorldK putRowK
  rw [heap_grow_old _ _ (by simpa using hg)]
  simp [putRow, mapBlock, Sort.ahead, Array.getElem?_modify, hb, onCells]
theorem grown27 {w : World} {g n : Nat} {os : Array Obj} (d : Array Bnd) : w.grownBy (sortWorldK encB 4 w g 0 n d os) (some g) := by
  unfold sortWorldK putRowK
  refine ⟨rfl, rfl, rfl, by simp, fun k hk hne => ?_⟩
  rw [heap_grow_old _ _ (by simpa using hk)]
  have : g ≠ k := fun e => hne (by rw [e])
  simp [putRow, mapBlock, Sort.ahead, Array.getElem?_modify, this]
theorem take27 (cur : Array Value) (ts : List Bnd) (h : ts.length * 4 ≤ cur.size) : (putCells id 0 (flatK encB 4 ts.toArray) cur).toList.take (ts.length * 4) = (flatK encB 4 ts.toArray).toList := by
  apply List.ext_getElem?
  intro j
  by_cases hj : j < ts.length * 4
  · rw [List.getElem?_take_of_lt hj, Array.getElem?_toList, Array.getElem?_toList]
    simp [putCells, hj, show j < cur.size by omega]
  · rw [List.getElem?_take_eq_none (by omega), List.getElem?_eq_none (by rw [flat_len]; omega)]
theorem cmpLaysB (blk size : Nat) (w : World) (hG : Glob w) (h2 : 2 ≤ blk) : CmpLays Tryd.prog 39 #[] encB 4 cmpB blk 0 size w := by
  intro m os dk _ x y
  refine (cmp_ok x y _ (glob_grown hG (grown27 dk) h2)).mono ?_
  rintro e w' ⟨rfl, q, os', rfl⟩
  exact ⟨rfl, q, os', rfl⟩
theorem sort_calls (blk cap : Nat) (d : Array Bnd) (w : World) (hG : Glob w) (h2 : 2 ≤ blk) (hH : HoldsK encB 4 w blk 0 d) (hblk : blk < w.heap.size) (hsz : d.size < 4611686018427387904) :
    Calls Tryd.prog 38 #[.slice (some ⟨blk, 0, none⟩) d.size cap, .func (.func 39) #[] #[]] w fun e w' => e = .returned (.tuple #[]) ∧ ∃ d' n os, PermIn 0 d.size d d' ∧ SortedIn (ltOf cmpB) 0 d.size d' ∧ w' = sortWorldK encB 4 w blk 0 n d' os := by
  have eg : ∀ args w, (callFunc 39 args).run Tryd.prog w = .ok (.enter 39 args) w := enters_of Tryd.func39 (by kernel_rfl) rfl
  exact AnyQ.slices_SortFunc Tryd.sortB 4 Tryd.isAgg27 Tryd.sizeOf27 encB (fun _ => rfl) (fun x v hv => by simp [encB] at hv; rcases hv with rfl | rfl | rfl | rfl <;> rfl) cmpB swoB 39 #[] blk 0 cap d w eg (cmpLaysB blk d.size w hG h2) hH hblk hsz
def Rising (l : List Bnd) : Prop := l.Pairwise fun a b => cmpB a b ≤ 0
theorem sorted_is {xs : List Bnd} {d' : Array Bnd} (hp : PermIn 0 xs.toArray.size xs.toArray d') (hs : SortedIn (ltOf cmpB) 0 xs.toArray.size d') : d'.toList.Perm xs ∧ Rising d'.toList := by
  have hsz : d'.size = xs.length := by have := hp.1; simpa using this
  refine ⟨?_, ?_⟩
  · have := hp.2.2
    have e1 : d'.extract 0 xs.toArray.size = d' := by
      have : xs.toArray.size = d'.size := by simp [hsz]
      rw [this]
      exact Array.extract_size
    have e2 : xs.toArray.extract 0 xs.toArray.size = xs.toArray := Array.extract_size
    rw [e1, e2] at this
    simpa using this
  · unfold Rising
    rw [List.pairwise_iff_getElem]
    intro i j hi hj hij
    have := hs i j (Nat.zero_le _) hij (by simpa [hsz] using hj)
    rw [ltB, decide_eq_false_iff_not] at this
    have h3 : ¬ cmpB d'.toList[j] d'.toList[i] < 0 := by
      simpa [getElem!_pos, show i < d'.size by simpa using hi, show j < d'.size by simpa using hj] using this
    have := ordB.neg d'.toList[i] d'.toList[j]
    omega
theorem sort_row {w : World} {base : Nat} {ok : Nat → Prop} {v : Value} {xs : List Bnd} (HR : Kd.R k27 27 w base ok v xs) (hG : Glob w) (hb2 : 2 ≤ base) (hl : xs.length ≤ 2513169434843) :
    Calls Tryd.prog 38 #[v, .func (.func 39) #[] #[]] w fun e w' => e = .returned (.tuple #[]) ∧ ∃ L, L.Perm xs ∧ Rising L ∧ Kd.R k27 27 w' base ok v L ∧ w.grownBy w' v.ownBlock := by
  obtain ⟨h0, inner, ho, hi⟩ := HR
  rcases ho.2 with ⟨rfl, hn⟩ | ⟨g, cap, cur, rfl, hg, hb, h1, h2, h3, h4⟩
  · obtain rfl := List.eq_nil_of_length_eq_zero hn
    refine Calls.mono (AnyF.slices_SortFunc_none Tryd.sortB none 0 (.func (.func 39) #[] #[]) w) ?_
    rintro e w' ⟨rfl, rfl⟩
    exact ⟨rfl, [], .refl _, .nil, Kd.R_nil _ _ _ _ _, ⟨rfl, rfl, rfl, Nat.le_refl _, fun _ _ _ => rfl⟩⟩
  · have hin := inner27 hi
    have hH := holds27 hb (h4.trans hin)
    have hlt : g < w.heap.size := (Array.getElem?_eq_some_iff.1 hb).1
    have hc := sort_calls g cap xs.toArray w hG (by omega) hH hlt (by simp; omega)
    simp only [List.size_toArray] at hc
    refine hc.mono ?_
    rintro e w' ⟨rfl, d', n, os, hP, hS, rfl⟩
    have hd := sorted_is (by simpa using hP) (by simpa using hS)
    obtain ⟨L, hL⟩ : ∃ L, L = d'.toList := ⟨_, rfl⟩
    rw [← hL] at hd
    have hlen := hd.1.length_eq
    have hda : d' = L.toArray := by rw [hL]
    refine ⟨rfl, L, hd.1, hd.2, ⟨h0, (flatK encB 4 L.toArray).toList, ⟨flat_len L, .inr ⟨g, cap, _, by rw [hlen], hg, heap27 d' hb, by omega, h2, by simp [putCells, h3], ?_⟩⟩, reps27 _ _ _ L⟩, grown27 d'⟩
    rw [hda]
    exact take27 cur L (by rw [h3]; show L.length * 4 ≤ cap * 4; omega)
end Go.Proofs.YtphddbijdfmpjaaDoor.Q
namespace Go.Proofs.YtphddbijdfmpjaaDoor.Q
open Go.RowKit Go.MapRaw Go.Proofs.YtphddbijdfmpjaaDoorW.PrintWords Go.Proofs.YtphddbijdfmpjaaDoorW.PrintLast Go.Proofs.YtphddbijdfmpjaaDoor.Wr
open Go.ChangeMaps (setBlock)
set_option linter.unusedVariables false
set_option linter.unusedSimpArgs false
theorem info27 : (Tryd.prog.info? 27).map (fun i => (i.zero, i.size, i.bytes)) = some (some (.agg #[.string ⟨#[]⟩, .string ⟨#[]⟩, .string ⟨#[]⟩, .int .i64 0]), 4, 56) := by kernel_rfl
theorem perm_step (xs : List Bnd) (A B : Tab) (p : Key × Bnd) : ((xs ++ [p.2]) ++ (A ++ B).map fun p => p.2).Perm (xs ++ (A ++ p :: B).map fun p => p.2) := by
  rw [List.append_assoc]
  refine List.Perm.append_left _ ?_
  rw [List.map_append, List.map_append, List.map_cons]
  simp only [List.cons_append, List.nil_append]
  exact List.perm_middle.symm
def ListSays (M : Tab) (w : World) (e : Ending) (w' : World) : Prop := ∃ v L, e = .returned v ∧ L.Perm (M.map fun p => p.2) ∧ Rising L ∧ Kd.R k27 27 w' w.heap.size (fun _ => True) v L ∧ Below w.heap.size w w'
set_option maxRecDepth 100000 in
set_option maxHeartbeats 8000000 in
theorem list_ok (w : World) (t b : Nat) (M : Tab) (hT : TB w t b M) (hG : Glob w) (hM : M.length ≤ 2513169434843) :
    Calls Tryd.prog 17 #[.pointer (some ⟨t, 0, none⟩)] w fun e w' => ListSays M w e w' := by
  have hu27 := Tryd.underlying27
  obtain ⟨o, hr, hR⟩ := hT.holds.range (P := Tryd.prog) (T := 66) (eT := 27) (kT := 70) Tryd.underlying66
  have HRA := Aside0.mk hR
  have HM := Lib.hid hM
  have HT := Lib.hid hT
  have GL := Lib.hid hG
  have ht := hT.cell
  clear hT hR hM hG
  go_enter Tryd.func17, Tryd.ntmps17
  go_upto_region 3 with fail
  have HB1 := Aside0.mk ((Below.refl w.heap.size w).alloc (Nat.le_refl _) o)
  clear hr ht
  generalize w.alloc o = w1 at HB1 HRA ⊢
  obtain ⟨rr, hrr⟩ : ∃ rr, rr = w.heap.size := ⟨_, rfl⟩
  have HRR := Lib.hid hrr
  rw [← hrr] at HRA ⊢
  clear hrr
  go_loopg [3] M.length (fun g v3 wr => ∃ (xs : List Bnd) (L : Tab), L.length ≤ g ∧ Aside0 ((xs ++ L.map fun p => p.2).Perm (M.map fun p => p.2)) ∧ Aside0 (Kd.R k27 27 wr w.heap.size (fun k => k ≠ rr ∧ k ≠ b) v3 xs) ∧ Aside0 (Ranging eK eV wr b rr M L) ∧ Aside0 (Below w.heap.size w wr))
  case atStart => exact ⟨[], M, Nat.le_refl _, ⟨.refl _⟩, ⟨Kd.R_nil _ _ _ _ _⟩, HRA, HB1⟩
  case round =>
    clear HRA HB1
    obtain ⟨xs, L, hg, HP, HR, HRg, HB⟩ := hrel
    rcases HRg.out.next (P := Tryd.prog) 0 with ⟨hL, hrun⟩ | ⟨A, p, B, hL, wd, o2, hwd, hrun, hat⟩
    · subst hL
      have HLEN := Lib.hid (show xs.length ≤ 2513169434843 by have := HP.out.length_eq; simp at this; have := HM.out; omega)
      have SORT := Lib.hid (sort_row HR.out (GL.out.below HB.out) (glob_size GL.out) HLEN.out)
      go_wp2_with (go_at_call 38; refine SORT.out.mono ?_; rintro e w4 ⟨rfl, L2, hP2, hS2, hR2, hg2⟩; have HP2 := Lib.hid hP2; have HS2 := Lib.hid hS2; have HR2 := Lib.hid hR2; have HG2 := Lib.hid hg2; clear hP2 hS2 hR2 hg2)
      go_ret
      exact ⟨_, L2, rfl, HP2.out.trans (by have := HP.out; simpa using this), HS2.out, Kd.R_mono HR2.out (fun _ _ => trivial), HB.out.grown HG2.out HB.out.size (fun j hj => own_base HR.out.2.choose_spec.1 j hj)⟩
    · subst hL
      cases gk with
      | zero => simp at hg
      | succ g =>
        have hent := hat.entry (P := Tryd.prog)
        have hbs : Below w.heap.size w (setBlock wd rr o2) := below_setBlock (by rcases hwd with rfl | rfl; exact HB.out; exact below_drew1 HB.out) (by have := HRR.out; omega)
        have hrs : Kd.R k27 27 (setBlock wd rr o2) w.heap.size (fun k => k ≠ rr ∧ k ≠ b) u3 xs := Kd.R_move HR.out (fun k hk => by rw [set_far _ _ _ _ hk.1]; rcases hwd with rfl | rfl <;> rfl)
        have HBS := Lib.hid hbs
        have HRS := Lib.hid hrs
        have HAT := Lib.hid hat
        have HLX := Lib.hid (show xs.length ≤ 2513169434843 by have := HP.out.length_eq; simp at this; have := HM.out; omega)
        have HPN := Lib.hid (show ((xs ++ [p.2]) ++ (A ++ B).map fun p => p.2).Perm (M.map fun p => p.2) from (by
          refine List.Perm.trans ?_ HP.out
          exact perm_step xs A B p))
        clear hbs hat hwd hrs HRg HB HR HP
        unfold eK eV at hrun hent
        generalize setBlock wd rr o2 = w2 at HBS HRS HAT hrun hent
        obtain ⟨⟨kp, kn⟩, ⟨vp, vn, vs, vv⟩⟩ := p
        go_upto_region 5 with fail
        have HB3 := Aside0.mk (HBS.out.alloc HBS.out.size (.cells #[.string vp, .string vn, .string vs, .int .i64 vv] 27))
        have HR3 := Aside0.mk (Kd.R_alloc HRS.out (.cells #[.string vp, .string vn, .string vs, .int .i64 vv] 27))
        have HA3 := Aside0.mk (Ranging_alloc HAT.out.on (.cells #[.string vp, .string vn, .string vs, .int .i64 vv] 27))
        have HV3 := Aside0.mk (blk_new w2 (.cells #[.string vp, .string vn, .string vs, .int .i64 vv] 27))
        obtain ⟨vb, hvb⟩ : ∃ vb, vb = w2.heap.size := ⟨_, rfl⟩
        rw [← hvb] at HV3 ⊢
        clear hvb HBS HRS HAT hrun hent
        generalize w2.alloc _ = w3 at HB3 HR3 HA3 HV3 ⊢
        have hv0 := (blk_cell HV3.out 0).trans rfl
        have hv1 := (blk_cell HV3.out 1).trans rfl
        have hv2 := (blk_cell HV3.out 2).trans rfl
        have hv3 := (blk_cell HV3.out 3).trans rfl
        have HLT := Lib.hid (Ranging_lt HA3.out)
        go_wp2_with (first
          | ((with_reducible refine gate_builtin (b := .append) (xs := #[.tmp 15, .tmp 17]) rfl ?_); at_builtin; refine Kd.R_append k27 (w0 := w) w.heap.size rfl (.tmp 15) (.tmp 17) 36 27 (.agg #[.string ⟨#[]⟩, .string ⟨#[]⟩, .string ⟨#[]⟩, .int .i64 0]) 56 rfl Tryd.underlying36 info27 rfl (by decide) (by omega) u3 xs ⟨vp, vn, vs, vv⟩ [.string vp, .string vn, .string vs, .int .i64 vv] (fun k => k ≠ rr ∧ k ≠ b) (fun _ => False) rfl rfl ?aP (fun _ hk => hk.elim) ?aF ?aO ?aB ?aS ?aL ?_; (case aP => exact k27_mkM _ _ _ ⟨vp, vn, vs, vv⟩); (case aB => exact HB3.out); (case aF => exact (fun k hk => by have := HLT.out; constructor <;> omega)); (case aO => exact HR3.out); (case aS => exact HB3.out.size); (case aL => have := HLX.out; omega);
                intro v2 w4 ho hb2 hg2 hat2; have HO4 := Aside0.mk ho; have HB4 := Aside0.mk hb2; have HG4 := Lib.hid hg2; clear ho hb2 hg2 hat2))
        have HRG4 := Aside0.mk (HA3.out.move (HG4.out.block b HLT.out.1 (fun e => (HR3.out.1 b e.symm).2 rfl)) (HG4.out.block rr HLT.out.2 (fun e => (HR3.out.1 rr e.symm).1 rfl)))
        go_roundg g
        case measure => omega
        case rel => exact ⟨xs ++ [⟨vp, vn, vs, vv⟩], A ++ B, by simp at hg ⊢; omega, ⟨HPN.out⟩, HO4, HRG4, HB4⟩
end Go.Proofs.YtphddbijdfmpjaaDoor.Q
namespace Go.Proofs.YtphddbijdfmpjaaDoor.Wr
end Go.Proofs.YtphddbijdfmpjaaDoor.Wr
namespace Go.Proofs.YtphddbijdfmpjaaDoor.Q
end Go.Proofs.YtphddbijdfmpjaaDoor.Q
namespace Go.Proofs.YtphddbijdfmpjaaDoor.Q
open Go.RowKit Go.MapRaw Go.Proofs.YtphddbijdfmpjaaDoorW.PrintWords Go.Proofs.YtphddbijdfmpjaaDoorW.PrintLast Go.Proofs.YtphddbijdfmpjaaDoor.Wr
open Go.ChangeMaps (setBlock)
set_option linter.unusedVariables false
set_option linter.unusedSimpArgs false
theorem k27_cells {w : World} {x : Bnd} {c : List Value} (h : k27.K w x c) : c = encB x := by
  obtain ⟨b0, e0, rfl, g0, b1, e1, rfl, g1, b2, e2, rfl, g2, g3⟩ := h
  have g0' : b0 = [.string x.path] := g0
  have g1' : b1 = [.string x.name] := g1
  have g2' : b2 = [.string x.subject] := g2
  have g3' : e2 = [.int .i64 x.verb] := g3
  subst g0' g1' g2' g3'
  rfl
theorem bnd_at {w : World} {A : Option Addr} {l : List Bnd} (h : k27.C w A l.length l) (i : Nat) (hi : i < l.length) : ∃ ad, A = some ad ∧ w.cell? (ad.add (i * 4)) = some (.string l[i].path) ∧ ∀ j u, j ≠ 0 → (encB l[i])[j]? = some u → w.cell? ⟨(ad.add (i * 4)).block, (ad.add (i * 4)).off + j, none⟩ = some u := by
  obtain ⟨ad, c, hA, _, hK, hc⟩ := Kd.C_get h l[i] (i : Int) (by omega) (by omega)
  have hg : l.getD (i : Int).toNat l[i] = l[i] := by rw [Int.toNat_natCast]; simp [hi]
  rw [hg] at hK
  have := k27_cells hK
  subst this
  refine ⟨ad, hA, ?_, fun j u hj hu => ?_⟩
  · have := hc 0 _ rfl
    rw [Int.toNat_natCast] at this
    exact this
  · have := hc j u hu
    rw [Int.toNat_natCast] at this
    rw [← add_off _ _ _ hj]
    exact this
end Go.Proofs.YtphddbijdfmpjaaDoor.Q
namespace Go.Proofs.YtphddbijdfmpjaaDoor.Q
open Go.RowKit Go.MapRaw Go.Proofs.YtphddbijdfmpjaaDoorW.PrintWords Go.Proofs.YtphddbijdfmpjaaDoorW.PrintLast Go.Proofs.YtphddbijdfmpjaaDoor.Wr
open Go.ChangeMaps (setBlock)
set_option linter.unusedVariables false
set_option linter.unusedSimpArgs false
theorem eqA27 (d : Nat) (w : World) (x0 y0 x1 y1 x2 y2 : ByteArray) (x3 y3 : Int) : (Op.equalIn (d + 2) 27 (.agg #[.string x0, .string x1, .string x2, .int .i64 x3]) (.agg #[.string y0, .string y1, .string y2, .int .i64 y3])).run Tryd.prog w = .ok (x0.toList == y0.toList && (x1.toList == y1.toList && (x2.toList == y2.toList && x3 == y3))) w := by
  refine eqA_of Tryd.underlying27 (by kernel_rfl) ?_
  refine eqf_cons (by rfl) (by go_simp; rfl) (by go_simp; rfl) (by go_simp) ?_
  refine eqf_cons (by rfl) (by go_simp; rfl) (by go_simp; rfl) (by go_simp) ?_
  refine eqf_cons (by rfl) (by go_simp; rfl) (by go_simp; rfl) (by go_simp) ?_
  exact eqf_last (by rfl) (by go_simp; rfl) (by go_simp; rfl) (by go_simp)
def eqBnd (a b : Bnd) : Bool := a.path.toList == b.path.toList && (a.name.toList == b.name.toList && (a.subject.toList == b.subject.toList && a.verb == b.verb))
theorem eqBnd_iff (a b : Bnd) : eqBnd a b = true ↔ a = b := by
  obtain ⟨a1, a2, a3, a4⟩ := a
  obtain ⟨b1, b2, b3, b4⟩ := b
  unfold eqBnd
  simp only [Bool.and_eq_true, toList_beq, ba_beq, beq_iff_eq, Bnd.mk.injEq]
def sameB : List Bnd → List Bnd → Bool
  | [], [] => true
  | a :: x, b :: y => eqBnd a b && sameB x y
  | _, _ => false
theorem sameB_iff : ∀ x y : List Bnd, sameB x y = true ↔ x = y
  | [], [] => by simp [sameB]
  | [], _ :: _ => by simp [sameB]
  | _ :: _, [] => by simp [sameB]
  | a :: x, b :: y => by simp only [sameB, Bool.and_eq_true, eqBnd_iff, sameB_iff x y, List.cons.injEq]
theorem sameB_len : ∀ {x y : List Bnd}, x.length ≠ y.length → sameB x y = false
  | [], [], h => absurd rfl h
  | [], _ :: _, _ => rfl
  | _ :: _, [], _ => rfl
  | a :: x, b :: y, h => by
    unfold sameB
    rw [sameB_len (fun e => h (by simp [e])), Bool.and_false]
attribute [local go_sem high] eqA27
set_option maxRecDepth 100000 in
set_option maxHeartbeats 16000000 in
theorem same_ok (A B : Option Addr) (c d : Nat) (x y : List Bnd) (w : World) (hx : k27.C w A x.length x) (hy : k27.C w B y.length y) (hl : x.length ≤ 2513169434843) :
    Calls Tryd.prog 16 #[.slice A x.length c, .slice B y.length d] w fun e w' => e = .returned (.bool (sameB x y)) ∧ Below w.heap.size w w' := by
  have hu27 := Tryd.underlying27
  obtain ⟨res, hres⟩ : ∃ res, res = sameB x y := ⟨_, rfl⟩
  rw [← hres]
  have HRES := Lib.hid hres
  have HX := Aside0.mk hx
  have HY := Aside0.mk hy
  have HLL := Lib.hid hl
  clear hx hy hl hres
  by_cases hne : x.length = y.length
  rotate_left
  · have e1 : ((x.length : Int) != (y.length : Int)) = true := bne_iff_ne.2 (by omega)
    have e1n : (x.length != y.length) = true := bne_iff_ne.2 hne
    have HNE := Lib.hid hne
    clear hne
    go_enter Tryd.func16, Tryd.ntmps16
    go_wp2
    go_ret
    exact ⟨by rw [HRES.out, sameB_len HNE.out] <;> rfl, Below.refl _ _⟩
  have e1 : ((x.length : Int) != (y.length : Int)) = false := bne_eq_false_iff_eq.2 (by omega)
  have HNE := Lib.hid hne
  clear hne
  go_enter Tryd.func16, Tryd.ntmps16
  go_upto_region 4 with fail
  clear e1
  go_loopg [5] x.length (fun g v5 wr => ∃ (i : Nat), v5 = .int .i64 (i : Int) ∧ Aside0 (i + g = x.length) ∧ Aside0 (sameB (x.drop i) (y.drop i) = res) ∧ Aside0 (Below w.heap.size w wr))
  case atStart => exact ⟨0, rfl, ⟨by omega⟩, ⟨by rw [List.drop_zero, List.drop_zero]; exact HRES.out.symm⟩, ⟨Below.refl _ _⟩⟩
  case round =>
    obtain ⟨i, rfl, HI, HS, HB⟩ := hrel
    by_cases hi : i < x.length
    rotate_left
    · have q1 : decide ((i : Int) < (x.length : Int)) = false := decide_eq_false (by omega)
      have q1n : decide (i < x.length) = false := decide_eq_false hi
      have HD := Lib.hid (show x.drop i = [] ∧ y.drop i = [] from ⟨List.drop_of_length_le (by omega), List.drop_of_length_le (by have := HNE.out; omega)⟩)
      clear hi
      go_wp2
      go_ret
      exact ⟨by rw [← HS.out, HD.out.1, HD.out.2] <;> rfl, HB.out⟩
    have hj : i < y.length := by have := HNE.out; omega
    have q1 : decide ((i : Int) < (x.length : Int)) = true := decide_eq_true (by omega)
    have q1n : decide (i < x.length) = true := decide_eq_true hi
    have p1 : (0 ≤ (i : Int)) = True := eq_true (by omega)
    have p2 : ((i : Int) < (x.length : Int)) = True := eq_true (by omega)
    have p3 : ((i : Int) < (y.length : Int)) = True := eq_true (by omega)
    obtain ⟨ad, hA, hx0, hx⟩ := bnd_at (Kd.C_below HX.out HB.out) i hi
    cases hA
    obtain ⟨ae, hA, hy0, hy⟩ := bnd_at (Kd.C_below HY.out HB.out) i hj
    cases hA
    have HDX := Lib.hid (And.intro (List.drop_eq_getElem_cons hi) (List.drop_eq_getElem_cons hj))
    obtain ⟨g0, rfl⟩ : ∃ g0, gk = g0 + 1 := ⟨gk - 1, by have := HI.out; omega⟩
    have HLT := Lib.hid hi
    generalize x[i] = xx at hx0 hx HDX
    generalize y[i] = yy at hy0 hy HDX
    obtain ⟨xp, xn, xs, xv⟩ := xx
    obtain ⟨yp, yn, ys, yv⟩ := yy
    have hx1 := hx 1 (.string xn) (by decide) rfl
    have hx2 := hx 2 (.string xs) (by decide) rfl
    have hx3 := hx 3 (.int .i64 xv) (by decide) rfl
    have hy1 := hy 1 (.string yn) (by decide) rfl
    have hy2 := hy 2 (.string ys) (by decide) rfl
    have hy3 := hy 3 (.int .i64 yv) (by decide) rfl
    clear hi hj hx hy
    have HST := Lib.hid (show sameB (x.drop i) (y.drop i) = (eqBnd ⟨xp, xn, xs, xv⟩ ⟨yp, yn, ys, yv⟩ && sameB (x.drop (i + 1)) (y.drop (i + 1))) by rw [HDX.out.1, HDX.out.2]; rfl)
    obtain ⟨q, hq⟩ : ∃ q, q = eqBnd ⟨xp, xn, xs, xv⟩ ⟨yp, yn, ys, yv⟩ := ⟨_, rfl⟩
    rw [← hq] at HST
    have hq2 : (!xp.toList == yp.toList || (!xn.toList == yn.toList || (!xs.toList == ys.toList || !xv == yv))) = !q := by rw [hq]; unfold eqBnd; simp only [Bool.not_and]
    have HQ := Lib.hid hq2
    clear hq hq2
    go_upto_region 6 with fail
    refine start_ (n := 9) (S := fun w' => w'.cell? (ad.add (i * 4)) = some (.string xp) ∧ w'.cell? ⟨(ad.add (i * 4)).block, (ad.add (i * 4)).off + 1, none⟩ = some (.string xn) ∧ w'.cell? ⟨(ad.add (i * 4)).block, (ad.add (i * 4)).off + 2, none⟩ = some (.string xs) ∧ w'.cell? ⟨(ad.add (i * 4)).block, (ad.add (i * 4)).off + 3, none⟩ = some (.int .i64 xv) ∧ w'.cell? (ae.add (i * 4)) = some (.string yp) ∧ w'.cell? ⟨(ae.add (i * 4)).block, (ae.add (i * 4)).off + 1, none⟩ = some (.string yn) ∧ w'.cell? ⟨(ae.add (i * 4)).block, (ae.add (i * 4)).off + 2, none⟩ = some (.string ys) ∧ w'.cell? ⟨(ae.add (i * 4)).block, (ae.add (i * 4)).off + 3, none⟩ = some (.int .i64 yv)) (ds := []) #[false, false, false, false, false, false, false, false, false] (by kernel_rfl) rfl rfl ⟨hx0, hx1, hx2, hx3, hy0, hy1, hy2, hy3⟩ (fun hHeld => ?_)
    have B4 := Aside0.mk (below_drew1 HB.out)
    generalize World.drew _ = w4 at B4 hHeld ⊢
    refine pure_ (i := 0) (N := some 17) (v := ?_) (a' := ?_) #[true, false, false, false, false, false, false, false, false] rfl rfl (by kernel_rfl) (fun _ _ _ h => h) (Or.inl ⟨by rfl, ?_⟩) ?_ ?_
    rotate_left
    · intro w'
      go_simp
      with_reducible rfl
    rotate_left
    · simp only [Act.put, List.setIfInBounds_toArray, List.set_cons_zero, List.set_cons_succ, i64_w, i32_w]
      rfl
    refine pure_ (i := 1) (N := some 18) (v := ?_) (a' := ?_) #[true, true, false, false, false, false, false, false, false] rfl rfl (by kernel_rfl) (fun _ _ _ h => h) (Or.inl ⟨by rfl, ?_⟩) ?_ ?_
    rotate_left
    · intro w'
      go_simp
      with_reducible rfl
    rotate_left
    · simp only [Act.put, List.setIfInBounds_toArray, List.set_cons_zero, List.set_cons_succ, i64_w, i32_w]
      rfl
    refine pure_ (i := 2) (N := some 19) (v := ?_) (a' := ?_) #[true, true, true, false, false, false, false, false, false] rfl rfl (by kernel_rfl) (fun _ _ _ h => h) (Or.inl ⟨by rfl, ?_⟩) ?_ ?_
    rotate_left
    · intro w'
      go_simp
      with_reducible rfl
    rotate_left
    · simp only [Act.put, List.setIfInBounds_toArray, List.set_cons_zero, List.set_cons_succ, i64_w, i32_w]
      rfl
    refine take_ (i := 3) (N := some 20) (v := ?_) (a' := ?_) #[true, true, true, true, false, false, false, false, false] rfl rfl (by kernel_rfl) (fun _ _ _ h => h) (Or.inl ⟨by rfl, ?_⟩) hHeld ?_ ?_
    rotate_left
    · rintro w' ⟨s0, s1, s2, s3, s4, s5, s6, s7⟩
      go_simp
      with_reducible rfl
    rotate_left
    · simp only [Act.put, List.setIfInBounds_toArray, List.set_cons_zero, List.set_cons_succ, i64_w, i32_w]
      rfl
    refine pure_ (i := 4) (N := some 21) (v := ?_) (a' := ?_) #[true, true, true, true, true, false, false, false, false] rfl rfl (by kernel_rfl) (fun _ _ _ h => h) (Or.inl ⟨by rfl, ?_⟩) ?_ ?_
    rotate_left
    · intro w'
      go_simp
      with_reducible rfl
    rotate_left
    · simp only [Act.put, List.setIfInBounds_toArray, List.set_cons_zero, List.set_cons_succ, i64_w, i32_w]
      rfl
    refine pure_ (i := 5) (N := some 22) (v := ?_) (a' := ?_) #[true, true, true, true, true, true, false, false, false] rfl rfl (by kernel_rfl) (fun _ _ _ h => h) (Or.inl ⟨by rfl, ?_⟩) ?_ ?_
    rotate_left
    · intro w'
      go_simp
      with_reducible rfl
    rotate_left
    · simp only [Act.put, List.setIfInBounds_toArray, List.set_cons_zero, List.set_cons_succ, i64_w, i32_w]
      rfl
    refine pure_ (i := 6) (N := some 23) (v := ?_) (a' := ?_) #[true, true, true, true, true, true, true, false, false] rfl rfl (by kernel_rfl) (fun _ _ _ h => h) (Or.inl ⟨by rfl, ?_⟩) ?_ ?_
    rotate_left
    · intro w'
      go_simp
      with_reducible rfl
    rotate_left
    · simp only [Act.put, List.setIfInBounds_toArray, List.set_cons_zero, List.set_cons_succ, i64_w, i32_w]
      rfl
    refine take_ (i := 7) (N := some 24) (v := ?_) (a' := ?_) #[true, true, true, true, true, true, true, true, false] rfl rfl (by kernel_rfl) (fun _ _ _ h => h) (Or.inl ⟨by rfl, ?_⟩) hHeld ?_ ?_
    rotate_left
    · rintro w' ⟨s0, s1, s2, s3, s4, s5, s6, s7⟩
      go_simp
      with_reducible rfl
    rotate_left
    · simp only [Act.put, List.setIfInBounds_toArray, List.set_cons_zero, List.set_cons_succ, i64_w, i32_w]
      rfl
    refine pure_ (i := 8) (N := some 25) (v := ?_) (a' := ?_) #[true, true, true, true, true, true, true, true, true] rfl rfl (by kernel_rfl) (fun _ _ _ h => h) (Or.inl ⟨by rfl, ?_⟩) ?_ ?_
    rotate_left
    · intro w'
      go_simp
      with_reducible rfl
    rotate_left
    · simp only [Act.put, List.setIfInBounds_toArray, List.set_cons_zero, List.set_cons_succ, i64_w, i32_w]
      rfl
    refine done_ (by kernel_rfl) ?_
    rw [HQ.out]
    clear hx0 hx1 hx2 hx3 hy0 hy1 hy2 hy3 hHeld
    cases q with
    | true =>
      go_wp2
      go_roundg g0
      case measure => omega
      case rel => exact ⟨i + 1, congrArg (Value.int .i64) (by rw [w64 i (by have := HLT.out; have := HLL.out; omega)]), ⟨by have := HI.out; omega⟩, ⟨by rw [← HS.out, HST.out, Bool.true_and]⟩, B4⟩
    | false =>
      go_wp2
      go_ret
      exact ⟨by rw [← HS.out, HST.out, Bool.false_and] <;> rfl, B4.out⟩
end Go.Proofs.YtphddbijdfmpjaaDoor.Q
namespace Go.Proofs.YtphddbijdfmpjaaDoor.Q
end Go.Proofs.YtphddbijdfmpjaaDoor.Q
namespace Go.Proofs.YtphddbijdfmpjaaDoor.Q
open Go.RowKit Go.MapRaw Go.Proofs.YtphddbijdfmpjaaDoorW.PrintWords Go.Proofs.YtphddbijdfmpjaaDoorW.PrintLast Go.Proofs.YtphddbijdfmpjaaDoor.Wr
open Go.ChangeMaps (setBlock)
set_option linter.unusedVariables false
set_option linter.unusedSimpArgs false
def ofS : Tab → List Bnd → Option Tab × Int
  | M, [] => (some M, 0)
  | M, x :: r => if (getA (x.path, x.name) M).isSome = true ∧ formedB x = true then (none, 190) else if setE M x = 0 then ofS (setM M x) r else (none, setE M x)
def OfSays (w : World) (r : Option Tab × Int) (e : Ending) (w' : World) : Prop :=
  ∃ v, e = .returned (.tuple #[v, .int .i64 r.2]) ∧ ((r.1 = none ∧ v = .pointer none) ∨ ∃ M t b, r.1 = some M ∧ v = .pointer (some ⟨t, 0, none⟩) ∧ TB w' t b M ∧ w.heap.size ≤ t ∧ w.heap.size ≤ b) ∧ Below w.heap.size w w'
theorem set_of {w w' : World} {t b : Nat} {M : Tab} {bd : Bnd} (hG : Glob w) (hT : TB w' t b M) (hB : Below w.heap.size w w') (hb : w.heap.size ≤ b) (hM : M.length ≤ 2513169434843) :
    Calls Tryd.prog 20 #[.pointer (some ⟨t, 0, none⟩), .agg #[.string bd.path, .string bd.name, .string bd.subject, .int .i64 bd.verb]] w' fun e w2 => e = .returned (.int .i64 (setE M bd)) ∧ TB w2 t b (setM M bd) ∧ Below w.heap.size w w2 := by
  refine (set_ok w' t b M bd hT (hG.below hB) hM).mono ?_
  rintro e w2 ⟨rfl, h1, h2⟩
  exact ⟨rfl, h1, hB.trans (h2.belowB hb hB.size)⟩
set_option maxRecDepth 100000 in
set_option maxHeartbeats 16000000 in
theorem of_ok (A : Option Addr) (c : Nat) (l : List Bnd) (w : World) (hr : k27.C w A l.length l) (hG : Glob w) (hl : l.length ≤ 2513169434843) :
    Calls Tryd.prog 14 #[.slice A l.length c] w fun e w' => OfSays w (ofS [] l) e w' := by
  have hu27 := Tryd.underlying27
  have hu70 := Tryd.underlying70
  obtain ⟨res, hres⟩ : ∃ res, res = ofS [] l := ⟨_, rfl⟩
  rw [← hres]
  have HRES := Lib.hid hres
  have HR := Aside0.mk hr
  have NEW := Lib.hid (newT_ok w)
  have GL := Lib.hid hG
  have HLL := Lib.hid hl
  clear hr hG hl hres
  go_enter Tryd.func14, Tryd.ntmps14
  go_upto_region 3 with (go_at_call 29; refine NEW.out.mono ?_; rintro e w1 ⟨t, b, rfl, hT, ht, hb, hb1⟩; have B1 := Aside0.mk hb1; have T1 := Aside0.mk hT; have HTB := Lib.hid (And.intro ht hb); clear hT ht hb hb1)
  clear NEW
  go_loopg [13] l.length (fun g v13 wr => ∃ (i : Nat) (M : Tab), v13 = .int .i64 (i : Int) ∧ Aside0 (i + g = l.length) ∧ Aside0 (M.length ≤ i) ∧ Aside0 (ofS M (l.drop i) = res) ∧ Aside0 (TB wr t b M) ∧ Aside0 (Below w.heap.size w wr))
  case atStart => exact ⟨0, [], rfl, ⟨by omega⟩, ⟨by simp⟩, ⟨by rw [List.drop_zero]; exact HRES.out.symm⟩, T1, B1⟩
  case round =>
    clear T1 B1
    obtain ⟨i, M, rfl, HI, HM, HO, HT, HB⟩ := hrel
    by_cases hi : i < l.length
    rotate_left
    · have q1 : decide ((i : Int) < (l.length : Int)) = false := decide_eq_false (by omega)
      have q1n : decide (i < l.length) = false := decide_eq_false hi
      have HD := Lib.hid (show l.drop i = [] from List.drop_of_length_le (by omega))
      clear hi
      go_wp2
      go_ret2
      have hres : res = (some M, 0) := by rw [← HO.out, HD.out]; rfl
      exact ⟨_, by rw [hres] <;> rfl, .inr ⟨M, t, b, by rw [hres], rfl, HT.out, HTB.out.1, HTB.out.2⟩, HB.out⟩
    have q1 : decide ((i : Int) < (l.length : Int)) = true := decide_eq_true (by omega)
    have q1n : decide (i < l.length) = true := decide_eq_true hi
    have p1 : (0 ≤ (i : Int)) = True := eq_true (by omega)
    have p2 : ((i : Int) < (l.length : Int)) = True := eq_true (by omega)
    obtain ⟨ad, hA, hx0, hx⟩ := bnd_at (Kd.C_below HR.out HB.out) i hi
    cases hA
    have HDX := Lib.hid (List.drop_eq_getElem_cons hi)
    obtain ⟨g0, rfl⟩ : ∃ g0, gk = g0 + 1 := ⟨gk - 1, by have := HI.out; omega⟩
    have HLT := Lib.hid hi
    have HMM := Lib.hid (show M.length ≤ 2513169434843 by have := HM.out; have := HLL.out; omega)
    generalize l[i] = x at hx0 hx HDX
    obtain ⟨bp, bn, bs, bv⟩ := x
    have hx1 := hx 1 (.string bn) (by decide) rfl
    have hx2 := hx 2 (.string bs) (by decide) rfl
    have hx3 := hx 3 (.int .i64 bv) (by decide) rfl
    clear hi hx
    have hst : ofS M (l.drop i) = if (getA (bp, bn) M).isSome = true ∧ formedB ⟨bp, bn, bs, bv⟩ = true then (none, 190) else if setE M ⟨bp, bn, bs, bv⟩ = 0 then ofS (setM M ⟨bp, bn, bs, bv⟩) (l.drop (i + 1)) else (none, setE M ⟨bp, bn, bs, bv⟩) := by rw [HDX.out]; rfl
    have HST := Lib.hid hst
    have hlk := fun w' (h : Holds eK eV w' b M) => h.lookup kind_pl (fun a => ⟨a, rfl⟩) eqPl_iff 66 27 Tryd.underlying66 (bp, bn) _ (Tryd.zeroValue27 w') true
    obtain ⟨cc, hc⟩ : ∃ cc : Bnd, ∀ w', Holds eK eV w' b M → (Instr.lookup 66 (.map (some b)) (.agg #[.string bp, .string bn]) true).run Tryd.prog w' = .ok (.tuple #[.agg #[.string cc.path, .string cc.name, .string cc.subject, .int .i64 cc.verb], .bool (getA (bp, bn) M).isSome]) w' := by
      refine ⟨(getA (bp, bn) M).getD ⟨⟨#[]⟩, ⟨#[]⟩, ⟨#[]⟩, 0⟩, fun w' h => (hlk w' h).trans ?_⟩
      cases getA (bp, bn) M <;> rfl
    obtain ⟨there, hth⟩ : ∃ z, z = (getA (bp, bn) M).isSome := ⟨_, rfl⟩
    rw [← hth] at hc
    have HC := Lib.hid hc
    have HTH := Lib.hid hth
    clear hst hlk hc hth
    obtain ⟨cp, cn, cs, cv⟩ := cc
    go_upto_region 5 with fail
    have hal := (Below.refl wr.heap.size wr).alloc (Nat.le_refl _) (.cells #[.string bp, .string bn, .string bs, .int .i64 bv] 27)
    have T3 := Aside0.mk (HT.out.below hal)
    have B3 := Aside0.mk (HB.out.trans (below_lower hal HB.out.size))
    have N3 := Aside0.mk (blk_new wr (.cells #[.string bp, .string bn, .string bs, .int .i64 bv] 27))
    obtain ⟨pp, hpp⟩ : ∃ pp, pp = wr.heap.size := ⟨_, rfl⟩
    rw [← hpp] at N3 ⊢
    clear hal hpp hx0 hx1 hx2 hx3 p1 p2 q1 q1n HT HB
    generalize wr.alloc _ = w3 at T3 B3 N3 ⊢
    refine start_ (n := 16) (S := fun w' => w'.cell? ⟨t, 0, none⟩ = some (.map (some b)) ∧ w'.cell? ⟨pp, 0, none⟩ = some (.string bp) ∧ w'.cell? ⟨pp, 1, none⟩ = some (.string bn) ∧ (Instr.lookup 66 (.map (some b)) (.agg #[.string bp, .string bn]) true).run Tryd.prog w' = .ok (.tuple #[.agg #[.string cp, .string cn, .string cs, .int .i64 cv], .bool there]) w') (ds := []) #[false, false, false, false, false, false, false, false, false, false, false, false, false, false, false, false] (by kernel_rfl) rfl rfl ⟨T3.out.cell, (blk_cell N3.out 0).trans rfl, (blk_cell N3.out 1).trans rfl, HC.out _ T3.out.holds⟩ (fun hHeld => ?_)
    have hwd := drew_below w3
    have T4 := Aside0.mk (TB.below T3.out hwd)
    have N4 := Aside0.mk (blk_below N3.out hwd)
    have B4 := Aside0.mk (below_drew1 B3.out)
    clear hwd T3 N3 B3
    generalize w3.drew = w4 at T4 N4 B4 hHeld ⊢
    refine pure_ (i := 0) (N := some 18) (v := ?_) (a' := ?_) #[true, false, false, false, false, false, false, false, false, false, false, false, false, false, false, false] rfl rfl (by kernel_rfl) (fun _ _ _ h => h) (Or.inl ⟨by rfl, ?_⟩) ?_ ?_
    rotate_left
    · intro w'
      go_simp
      with_reducible rfl
    rotate_left
    · simp only [Act.put, List.setIfInBounds_toArray, List.set_cons_zero, List.set_cons_succ, i64_w, i32_w]
      rfl
    refine pure_ (i := 1) (N := some 19) (v := ?_) (a' := ?_) #[true, true, false, false, false, false, false, false, false, false, false, false, false, false, false, false] rfl rfl (by kernel_rfl) (fun _ _ _ h => h) (Or.inl ⟨by rfl, ?_⟩) ?_ ?_
    rotate_left
    · intro w'
      go_simp
      with_reducible rfl
    rotate_left
    · simp only [Act.put, List.setIfInBounds_toArray, List.set_cons_zero, List.set_cons_succ, i64_w, i32_w]
      rfl
    refine pure_ (i := 2) (N := some 20) (v := ?_) (a' := ?_) #[true, true, true, false, false, false, false, false, false, false, false, false, false, false, false, false] rfl rfl (by kernel_rfl) (fun _ _ _ h => h) (Or.inl ⟨by rfl, ?_⟩) ?_ ?_
    rotate_left
    · intro w'
      go_simp
      with_reducible rfl
    rotate_left
    · simp only [Act.put, List.setIfInBounds_toArray, List.set_cons_zero, List.set_cons_succ, i64_w, i32_w]
      rfl
    refine take_ (i := 3) (N := some 21) (v := ?_) (a' := ?_) #[true, true, true, true, false, false, false, false, false, false, false, false, false, false, false, false] rfl rfl (by kernel_rfl) (fun _ _ _ h => h) (Or.inl ⟨by rfl, ?_⟩) hHeld ?_ ?_
    rotate_left
    · rintro w' ⟨s0, s1, s2, s3⟩
      go_simp
      with_reducible rfl
    rotate_left
    · simp only [Act.put, List.setIfInBounds_toArray, List.set_cons_zero, List.set_cons_succ, i64_w, i32_w]
      rfl
    refine pure_ (i := 4) (N := some 22) (v := ?_) (a' := ?_) #[true, true, true, true, true, false, false, false, false, false, false, false, false, false, false, false] rfl rfl (by kernel_rfl) (fun _ _ _ h => h) (Or.inl ⟨by rfl, ?_⟩) ?_ ?_
    rotate_left
    · intro w'
      go_simp
      with_reducible rfl
    rotate_left
    · simp only [Act.put, List.setIfInBounds_toArray, List.set_cons_zero, List.set_cons_succ, i64_w, i32_w]
      rfl
    refine take_ (i := 5) (N := some 23) (v := ?_) (a' := ?_) #[true, true, true, true, true, true, false, false, false, false, false, false, false, false, false, false] rfl rfl (by kernel_rfl) (fun _ _ _ h => h) (Or.inl ⟨by rfl, ?_⟩) hHeld ?_ ?_
    rotate_left
    · rintro w' ⟨s0, s1, s2, s3⟩
      go_simp
      with_reducible rfl
    rotate_left
    · simp only [Act.put, List.setIfInBounds_toArray, List.set_cons_zero, List.set_cons_succ, i64_w, i32_w]
      rfl
    refine pure_ (i := 6) (N := some 24) (v := ?_) (a' := ?_) #[true, true, true, true, true, true, true, false, false, false, false, false, false, false, false, false] rfl rfl (by kernel_rfl) (fun _ _ _ h => h) (Or.inl ⟨by rfl, ?_⟩) ?_ ?_
    rotate_left
    · intro w'
      go_simp
      with_reducible rfl
    rotate_left
    · simp only [Act.put, List.setIfInBounds_toArray, List.set_cons_zero, List.set_cons_succ, i64_w, i32_w]
      rfl
    refine take_ (i := 7) (N := some 25) (v := ?_) (a' := ?_) #[true, true, true, true, true, true, true, true, false, false, false, false, false, false, false, false] rfl rfl (by kernel_rfl) (fun _ _ _ h => h) (Or.inl ⟨by rfl, ?_⟩) hHeld ?_ ?_
    rotate_left
    · rintro w' ⟨s0, s1, s2, s3⟩
      go_simp
      with_reducible rfl
    rotate_left
    · simp only [Act.put, List.setIfInBounds_toArray, List.set_cons_zero, List.set_cons_succ, i64_w, i32_w]
      rfl
    refine pure_ (i := 8) (N := some 26) (v := ?_) (a' := ?_) #[true, true, true, true, true, true, true, true, true, false, false, false, false, false, false, false] rfl rfl (by kernel_rfl) (fun _ _ _ h => h) (Or.inl ⟨by rfl, ?_⟩) ?_ ?_
    rotate_left
    · intro w'
      go_simp
      with_reducible rfl
    rotate_left
    · simp only [Act.put, List.setIfInBounds_toArray, List.set_cons_zero, List.set_cons_succ, i64_w, i32_w]
      rfl
    refine take_ (i := 9) (N := some 27) (v := ?_) (a' := ?_) #[true, true, true, true, true, true, true, true, true, true, false, false, false, false, false, false] rfl rfl (by kernel_rfl) (fun _ _ _ h => h) (Or.inl ⟨by rfl, ?_⟩) hHeld ?_ ?_
    rotate_left
    · rintro w' ⟨s0, s1, s2, s3⟩
      go_simp
      with_reducible rfl
    rotate_left
    · simp only [Act.put, List.setIfInBounds_toArray, List.set_cons_zero, List.set_cons_succ, i64_w, i32_w]
      rfl
    refine pure_ (i := 10) (N := some 17) (v := ?_) (a' := ?_) #[true, true, true, true, true, true, true, true, true, true, true, false, false, false, false, false] rfl rfl (by kernel_rfl) (fun _ _ _ h => h) (Or.inl ⟨by rfl, ?_⟩) ?_ ?_
    rotate_left
    · intro w'
      go_simp
      with_reducible rfl
    rotate_left
    · simp only [Act.put, List.setIfInBounds_toArray, List.set_cons_zero, List.set_cons_succ, i64_w, i32_w]
      rfl
    refine pure_ (i := 11) (N := some 28) (v := ?_) (a' := ?_) #[true, true, true, true, true, true, true, true, true, true, true, true, false, false, false, false] rfl rfl (by kernel_rfl) (fun _ _ _ h => h) (Or.inl ⟨by rfl, ?_⟩) ?_ ?_
    rotate_left
    · intro w'
      go_simp
      with_reducible rfl
    rotate_left
    · simp only [Act.put, List.setIfInBounds_toArray, List.set_cons_zero, List.set_cons_succ, i64_w, i32_w]
      rfl
    refine pure_ (i := 12) (N := some 29) (v := ?_) (a' := ?_) #[true, true, true, true, true, true, true, true, true, true, true, true, true, false, false, false] rfl rfl (by kernel_rfl) (fun _ _ _ h => h) (Or.inl ⟨by rfl, ?_⟩) ?_ ?_
    rotate_left
    · intro w'
      go_simp
      with_reducible rfl
    rotate_left
    · simp only [Act.put, List.setIfInBounds_toArray, List.set_cons_zero, List.set_cons_succ, i64_w, i32_w]
      rfl
    refine one_ (i := 13) (N := some 7) #[true, true, true, true, true, true, true, true, true, true, true, true, true, true, false, false] rfl rfl (by kernel_rfl) (by decide) (fun K hK => ?_)
    refine value_ (v := .pointer (some ⟨w4.heap.size, 0, none⟩)) (w1 := w4.alloc (.cells #[.string ⟨#[]⟩, .string ⟨#[]⟩, .string ⟨#[]⟩, .int .i64 0] 27)) (by rfl) rfl ?_ ?_
    · go_simp
    have hal5 := (Below.refl w4.heap.size w4).alloc (Nat.le_refl _) (.cells #[.string ⟨#[]⟩, .string ⟨#[]⟩, .string ⟨#[]⟩, .int .i64 0] 27)
    have T5 := Aside0.mk (TB.below T4.out hal5)
    have N5 := Aside0.mk (blk_below N4.out hal5)
    have B5 := Aside0.mk (B4.out.trans (below_lower hal5 B4.out.size))
    have Q5 := Aside0.mk (blk_new w4 (.cells #[.string ⟨#[]⟩, .string ⟨#[]⟩, .string ⟨#[]⟩, .int .i64 0] 27))
    have HQ := Lib.hid (show t < w4.heap.size ∧ b < w4.heap.size ∧ pp < w4.heap.size from ⟨T4.out.lt.1, T4.out.lt.2, blk_lt N4.out⟩)
    have HA := Lib.hid B4.out.size
    obtain ⟨qq, hqq⟩ : ∃ qq, qq = w4.heap.size := ⟨_, rfl⟩
    rw [← hqq] at Q5 HQ HA ⊢
    clear hal5 hqq T4 N4 B4
    generalize w4.alloc _ = w5 at T5 N5 B5 Q5 ⊢
    refine hK.out _ _ ⟨T5.out.cell, (blk_cell N5.out 0).trans rfl, (blk_cell N5.out 1).trans rfl, HC.out _ T5.out.holds⟩ (fun hHeld => ?_)
    clear hK K
    refine norm_ (a' := ?_) ?_ ?_
    rotate_left
    · show Act.put _ (some 7) _ = _
      simp only [Act.put, List.setIfInBounds_toArray, List.set_cons_zero, List.set_cons_succ, i64_w, i32_w]
      rfl
    refine one_ (i := 14) (N := none) #[true, true, true, true, true, true, true, true, true, true, true, true, true, true, true, false] rfl rfl (by kernel_rfl) (by decide) (fun K hK => ?_)
    have hf0 := blk_frozen Q5.out 0
    have hf1 := blk_frozen Q5.out 1
    have hf2 := blk_frozen Q5.out 2
    have hf3 := blk_frozen Q5.out 3
    have hcs0 := (blk_cell Q5.out 0).trans rfl
    have hcs1 := (blk_cell Q5.out 1).trans rfl
    have hcs2 := (blk_cell Q5.out 2).trans rfl
    have hcs3 := (blk_cell Q5.out 3).trans rfl
    refine skip_ (w1 := ?_) (by rfl) rfl ?_ ?_
    rotate_left
    · go_simp
      rfl
    have hbq := below_put4 (b0 := .string cp) (b1 := .string cn) (b2 := .string cs) (b3 := .int .i64 cv) (Below.refl qq w5) (Nat.le_refl qq)
    have T6 := Aside0.mk (T5.out.belowB hbq HQ.out.1 HQ.out.2.1)
    have N6 := Aside0.mk ((hbq.block _ HQ.out.2.2).trans N5.out)
    have B6 := Aside0.mk (B5.out.trans (below_lower hbq HA.out))
    clear hf0 hf1 hf2 hf3 hcs0 hcs1 hcs2 hcs3 hbq T5 N5 B5 Q5
    generalize World.setCell _ _ _ = w6 at T6 N6 B6 ⊢
    refine hK.out _ _ ⟨T6.out.cell, (blk_cell N6.out 0).trans rfl, (blk_cell N6.out 1).trans rfl, HC.out _ T6.out.holds⟩ (fun hHeld => ?_)
    clear hK K
    refine pure_ (i := 15) (N := some 8) (v := ?_) (a' := ?_) #[true, true, true, true, true, true, true, true, true, true, true, true, true, true, true, true] rfl rfl (by kernel_rfl) (fun _ _ _ h => h) (Or.inl ⟨by rfl, ?_⟩) ?_ ?_
    rotate_left
    · intro w'
      go_simp
      with_reducible rfl
    rotate_left
    · simp only [Act.put, List.setIfInBounds_toArray, List.set_cons_zero, List.set_cons_succ, i64_w, i32_w]
      rfl
    refine done_ (by kernel_rfl) ?_
    clear hHeld HC HQ HA
    have hd0 := (blk_cell N6.out 0).trans rfl
    have hd1 := (blk_cell N6.out 1).trans rfl
    have hd2 := (blk_cell N6.out 2).trans rfl
    have hd3 := (blk_cell N6.out 3).trans rfl
    have VC := Lib.hid (fun w' hG => valid_ok ⟨bp, bn, bs, bv⟩ w' hG)
    unfold eV at VC
    have SC := Lib.hid (fun w' hT hB => set_of (w := w) (w' := w') (t := t) (b := b) (M := M) (bd := ⟨bp, bn, bs, bv⟩) GL.out hT hB HTB.out.2 HMM.out)
    cases there with
    | true =>
      by_cases hf : formedB ⟨bp, bn, bs, bv⟩ = true
      · rw [if_pos hf] at VC
        have HF := Lib.hid hf
        clear hf
        go_wp2_with (go_at_call 33; refine (VC.out _ (GL.out.below B6.out)).mono ?_; rintro e wv ⟨rfl, hb⟩; have T6b := Aside0.mk (T6.out.below hb); have N6b := Aside0.mk (blk_below N6.out hb); have B6b := Aside0.mk (B6.out.trans (below_lower hb B6.out.size)); clear hb T6 N6 B6; have T6 := T6b; have N6 := N6b; have B6 := B6b; clear T6b N6b B6b; have hd0 := (blk_cell N6.out 0).trans rfl; have hd1 := (blk_cell N6.out 1).trans rfl; have hd2 := (blk_cell N6.out 2).trans rfl; have hd3 := (blk_cell N6.out 3).trans rfl)
        go_ret2
        have hres : res = (none, 190) := by rw [← HO.out, HST.out, if_pos ⟨HTH.out.symm, HF.out⟩]
        exact ⟨_, by rw [hres] <;> rfl, .inl ⟨by rw [hres], rfl⟩, B6.out⟩
      · rw [if_neg hf] at VC
        have HE := Lib.hid (show setE M ⟨bp, bn, bs, bv⟩ = 130 by unfold setE; rw [if_neg hf])
        have HF := Lib.hid hf
        rw [HE.out] at SC
        clear hf
        go_wp2_with (first | (go_at_call 33; refine (VC.out _ (GL.out.below B6.out)).mono ?_; rintro e wv ⟨rfl, hb⟩; have T6b := Aside0.mk (T6.out.below hb); have N6b := Aside0.mk (blk_below N6.out hb); have B6b := Aside0.mk (B6.out.trans (below_lower hb B6.out.size)); clear hb T6 N6 B6; have T6 := T6b; have N6 := N6b; have B6 := B6b; clear T6b N6b B6b; have hd0 := (blk_cell N6.out 0).trans rfl; have hd1 := (blk_cell N6.out 1).trans rfl; have hd2 := (blk_cell N6.out 2).trans rfl; have hd3 := (blk_cell N6.out 3).trans rfl) | (go_at_call 20; (with_reducible refine (SC.out _ T6.out B6.out).mono ?_); rintro e w7 ⟨rfl, hT, hB⟩; have T7 := Aside0.mk hT; have B7 := Aside0.mk hB; clear hT hB))
        go_ret2
        have hres : res = (none, 130) := by rw [← HO.out, HST.out, if_neg (fun h => HF.out h.2), HE.out, if_neg (by decide)]
        exact ⟨_, by rw [hres] <;> rfl, .inl ⟨by rw [hres], rfl⟩, B7.out⟩
    | false =>
      by_cases h0 : setE M ⟨bp, bn, bs, bv⟩ = 0
      · rw [h0] at SC
        have H0 := Lib.hid h0
        clear h0
        go_wp2_with (go_at_call 20; (with_reducible refine (SC.out _ T6.out B6.out).mono ?_); rintro e w7 ⟨rfl, hT, hB⟩; have T7 := Aside0.mk hT; have B7 := Aside0.mk hB; clear hT hB)
        go_roundg g0
        case measure => omega
        case rel => exact ⟨i + 1, setM M ⟨bp, bn, bs, bv⟩, congrArg (Value.int .i64) (by rw [w64 i (by have := HLT.out; have := HLL.out; omega)]), ⟨by have := HI.out; omega⟩, ⟨by have := HM.out; have := setM_len M ⟨bp, bn, bs, bv⟩; omega⟩, ⟨by rw [← HO.out, HST.out, if_neg (fun h => by have := HTH.out; rw [h.1] at this; cases this), if_pos H0.out]⟩, T7, B7⟩
      · obtain ⟨ee, hee⟩ : ∃ ee, ee = setE M ⟨bp, bn, bs, bv⟩ := ⟨_, rfl⟩
        rw [← hee] at SC h0
        have HEE := Lib.hid hee
        have e0 : (ee != 0) = true := bne_iff_ne.2 h0
        have H0 := Lib.hid h0
        clear h0 hee
        go_wp2_with (go_at_call 20; (with_reducible refine (SC.out _ T6.out B6.out).mono ?_); rintro e w7 ⟨rfl, hT, hB⟩; have T7 := Aside0.mk hT; have B7 := Aside0.mk hB; clear hT hB)
        go_ret2
        have hres : res = (none, ee) := by rw [← HO.out, HST.out, if_neg (fun h => by have := HTH.out; rw [h.1] at this; cases this), ← HEE.out, if_neg H0.out]
        exact ⟨_, by rw [hres] <;> rfl, .inl ⟨by rw [hres], rfl⟩, B7.out⟩
end Go.Proofs.YtphddbijdfmpjaaDoor.Q
namespace Go.Proofs.YtphddbijdfmpjaaDoor.Wr
open Go.RowKit Go.MapRaw Go.Proofs.YtphddbijdfmpjaaDoorW.PrintWords Go.Proofs.YtphddbijdfmpjaaDoorW.PrintLast Go.Proofs.YtphddbijdfmpjaaDoor.Q Go.Proofs.YtphddbijdfmpjaaDoor.Pl
set_option linter.unusedVariables false
set_option linter.unusedSimpArgs false
theorem cnt_put (q : ByteArray) (k : Key) (v : Bnd) : ∀ M : Tab, cnt q (putA k v M) = cnt q M + (if (getA k M).isSome = true then 0 else if k.1 = q then 1 else 0)
  | [] => by simp [putA, cnt, getA]
  | p :: r => by
    have ih := cnt_put q k v r
    unfold putA getA
    by_cases e : p.1 = k
    · rw [if_pos e, if_pos e]
      simp only [cnt, Option.isSome_some, if_true, e]
      omega
    · rw [if_neg e, if_neg e]
      simp only [cnt, ih]
      omega
theorem len_put (k : Key) (v : Bnd) : ∀ M : Tab, (putA k v M).length = M.length + (if (getA k M).isSome = true then 0 else 1)
  | [] => by simp [putA, getA]
  | p :: r => by
    have ih := len_put k v r
    unfold putA getA
    by_cases e : p.1 = k
    · rw [if_pos e, if_pos e]; simp
    · rw [if_neg e, if_neg e, List.length_cons, ih, List.length_cons]; omega
theorem cnt_del (q : ByteArray) (k : Key) : ∀ M : Tab, (getA k M).isSome = true → cnt q (delA k M) + (if k.1 = q then 1 else 0) = cnt q M
  | [], h => by simp [getA] at h
  | p :: r, h => by
    unfold delA
    by_cases e : p.1 = k
    · rw [if_pos e]
      simp only [cnt, e]
      omega
    · rw [if_neg e]
      have : getA k (p :: r) = getA k r := by rw [getA, if_neg e]
      rw [this] at h
      have ih := cnt_del q k r h
      simp only [cnt]
      omega
theorem len_del (k : Key) : ∀ M : Tab, (getA k M).isSome = true → (delA k M).length + 1 = M.length
  | [], h => by simp [getA] at h
  | p :: r, h => by
    unfold delA
    by_cases e : p.1 = k
    · rw [if_pos e]; rfl
    · rw [if_neg e]
      have : getA k (p :: r) = getA k r := by rw [getA, if_neg e]
      rw [this] at h
      have ih := len_del k r h
      simp only [List.length_cons]
      omega
structure TabIs (M : Tab) (has : Key → Prop) (n : ByteArray → Nat) (len : Nat) : Prop where
  nodup : (M.map (fun x => x.1)).Nodup
  keys : ∀ k, (getA k M).isSome = true ↔ has k
  count : ∀ q, cnt q M = n q
  size : M.length = len
theorem TabIs.nil : TabIs [] (fun _ => False) (fun _ => 0) 0 := ⟨by simp, fun k => by simp [getA], fun q => rfl, rfl⟩
theorem TabIs.same {M : Tab} {has has2 : Key → Prop} {n n2 : ByteArray → Nat} {l l2 : Nat} (h : TabIs M has n l) (h1 : ∀ k, has k ↔ has2 k) (h2 : ∀ q, n q = n2 q) (h3 : l = l2) : TabIs M has2 n2 l2 :=
  ⟨h.nodup, fun k => (h.keys k).trans (h1 k), fun q => (h.count q).trans (h2 q), h.size.trans h3⟩
theorem TabIs.swap {M : Tab} {has : Key → Prop} {n : ByteArray → Nat} {l : Nat} (h : TabIs M has n l) (b : Bnd) (hf : formedB b = true) (hn : has (b.path, b.name)) : setE M b = 0 ∧ TabIs (setM M b) has n l := by
  have hk : (getA (b.path, b.name) M).isSome = true := (h.keys _).2 hn
  have he : setE M b = 0 := by
    unfold setE
    rw [if_pos hf, if_neg (fun e => by have h1 := e.1; rw [Option.isNone_iff_eq_none] at h1; rw [h1] at hk; cases hk)]
  refine ⟨he, setM_nodup b h.nodup, fun k => ?_, fun q => ?_, ?_⟩
  · unfold setM
    rw [if_pos he, get_put]
    by_cases e : k = (b.path, b.name)
    · rw [if_pos e]; simp [e, hn]
    · rw [if_neg e, h.keys]
  · unfold setM
    rw [if_pos he, cnt_put, if_pos hk, h.count]; rfl
  · unfold setM
    rw [if_pos he, len_put, if_pos hk, h.size]; rfl
theorem TabIs.drop {M : Tab} {has : Key → Prop} {n : ByteArray → Nat} {l : Nat} (h : TabIs M has n l) (p nm : ByteArray) (hp : pathS p = 0) (hn : has (p, nm)) :
    dropE M p nm = 0 ∧ TabIs (dropM M p nm) (fun k => k ≠ (p, nm) ∧ has k) (fun q => n q - (if p = q then 1 else 0)) (l - 1) := by
  have hk : (getA (p, nm) M).isSome = true := (h.keys _).2 hn
  have he : dropE M p nm = 0 := by unfold dropE; rw [if_pos hp, if_pos hk]
  refine ⟨he, ?_, fun k => ?_, fun q => ?_, ?_⟩
  · unfold dropM; rw [if_pos he]; exact nodup_del _ M h.nodup
  · unfold dropM
    rw [if_pos he, get_del _ _ _ h.nodup]
    by_cases e : k = (p, nm)
    · rw [if_pos e]; simp [e]
    · rw [if_neg e, h.keys]; simp [e]
  · unfold dropM
    rw [if_pos he]
    have := cnt_del q (p, nm) M hk
    have h2 := h.count q
    simp only at this
    omega
  · unfold dropM
    rw [if_pos he]
    have := len_del (p, nm) M hk
    have h2 := h.size
    omega
theorem getA_mem {k : Key} : ∀ {M : Tab}, (getA k M).isSome = true ↔ k ∈ M.map (fun x => x.1)
  | [] => by simp [getA]
  | p :: r => by
    unfold getA
    by_cases e : p.1 = k
    · rw [if_pos e]; simp [e]
    · rw [if_neg e, getA_mem, List.map_cons, List.mem_cons]
      exact ⟨.inr, fun h => h.elim (fun h => absurd h.symm e) id⟩
def nm (i : Nat) : ByteArray := (⟨#[110]⟩ : ByteArray) ++ strOfNums [97 + (i : Int)]
end Go.Proofs.YtphddbijdfmpjaaDoor.Wr
namespace Go.Proofs.YtphddbijdfmpjaaDoor.Q
open Go.RowKit Go.MapRaw Go.Proofs.YtphddbijdfmpjaaDoorW.PrintWords Go.Proofs.YtphddbijdfmpjaaDoorW.PrintLast Go.Proofs.YtphddbijdfmpjaaDoor.Wr Go.Proofs.YtphddbijdfmpjaaDoor.Pl
set_option linter.unusedVariables false
set_option linter.unusedSimpArgs false
def keyB (b : Bnd) : Key := (b.path, b.name)
def cntB (q : ByteArray) : List Bnd → Nat
  | [] => 0
  | b :: r => (if b.path = q then 1 else 0) + cntB q r
theorem cntB_app (q : ByteArray) : ∀ x y : List Bnd, cntB q (x ++ y) = cntB q x + cntB q y
  | [], y => by simp [cntB]
  | b :: r, y => by simp only [List.cons_append, cntB, cntB_app q r y]; omega
theorem cntB_perm (q : ByteArray) {x y : List Bnd} (h : x.Perm y) : cntB q x = cntB q y := by
  induction h with
  | nil => rfl
  | cons a _ ih => simp only [cntB, ih]
  | swap a b l => simp only [cntB]; omega
  | trans _ _ ih1 ih2 => exact ih1.trans ih2
theorem cntB_tab (q : ByteArray) : ∀ M : Tab, (∀ x ∈ M, x.1 = keyB x.2) → cntB q (M.map fun p => p.2) = cnt q M
  | [], _ => rfl
  | x :: r, h => by
    have hx := h x (by simp)
    simp only [List.map_cons, cntB, cnt, cntB_tab q r (fun y hy => h y (by simp [hy]))]
    rw [hx]; rfl
structure Fit (m : List Bnd) : Prop where
  formed : ∀ b ∈ m, formedB b = true
  apart : (m.map keyB).Nodup
  few : ∀ q, cntB q m ≤ 16
theorem Fit.perm {m n : List Bnd} (h : Fit m) (hp : m.Perm n) : Fit n :=
  ⟨fun b hb => h.formed b (hp.mem_iff.2 hb), (hp.map keyB).nodup_iff.1 h.apart, fun q => by rw [← cntB_perm q hp]; exact h.few q⟩
def tag (b : Bnd) : Key × Bnd := (keyB b, b)
theorem put_new {k : Key} {v : Bnd} : ∀ {M : Tab}, k ∉ M.map (fun x => x.1) → putA k v M = M ++ [(k, v)]
  | [], _ => rfl
  | p :: r, h => by
    simp only [List.map_cons, List.mem_cons, not_or] at h
    unfold putA
    rw [if_neg (fun e => h.1 e.symm), put_new h.2]
    rfl
theorem getA_out {k : Key} {M : Tab} : (getA k M).isSome = true ↔ k ∈ M.map (fun x => x.1) := getA_mem
theorem path_inj {a b : ByteArray} (ha : pathS a = 0) (hb : pathS b = 0) (h : (splitS a).1 = (splitS b).1) : a = b := by
  rcases path_cases a with ⟨na, h1, e1⟩ | ⟨_, e1⟩
  · rcases path_cases b with ⟨nb, h2, e2⟩ | ⟨_, e2⟩
    · rw [e1, e2] at h
      have h' : na.map toB = nb.map toB := h
      have hn : na = nb := by
        rw [← map_list na, ← map_list nb, h']
      rw [s_of h1, s_of h2, hn]
    · unfold pathS at hb; rw [e2] at hb; cases hb
  · unfold pathS at ha; rw [e1] at ha; cases ha
theorem formed_path {b : Bnd} (h : formedB b = true) : pathS b.path = 0 := by
  unfold formedB at h
  simp only [Bool.and_eq_true, decide_eq_true_eq] at h
  exact h.1.1.1.1
theorem cmpB_key {a b : Bnd} (ha : formedB a = true) (hb : formedB b = true) (h : cmpB a b = 0) : keyB a = keyB b := by
  unfold cmpB at h
  by_cases e : cmpL (splitS a.path).1 (splitS b.path).1 = 0
  · rw [if_neg (by omega)] at h
    have h1 := path_inj (formed_path ha) (formed_path hb) (cmpL_zero e)
    have h2 := cmpS_zero h
    unfold keyB
    rw [h1, h2]
  · rw [if_pos (by omega)] at h; omega
theorem key_inj {m : List Bnd} (h : (m.map keyB).Nodup) {a b : Bnd} (ha : a ∈ m) (hb : b ∈ m) (e : keyB a = keyB b) : a = b := by
  induction m with
  | nil => cases ha
  | cons x r ih =>
    rw [List.map_cons, List.nodup_cons] at h
    rcases List.mem_cons.1 ha with h1 | h1
    · rcases List.mem_cons.1 hb with h2 | h2
      · rw [h1, h2]
      · exact absurd (List.mem_map.2 ⟨b, h2, by rw [← h1]; exact e.symm⟩) h.1
    · rcases List.mem_cons.1 hb with h2 | h2
      · exact absurd (List.mem_map.2 ⟨a, h1, by rw [← h2]; exact e⟩) h.1
      · exact ih h.2 h1 h2
theorem cntB_take_succ (q : ByteArray) {l : List Bnd} {i : Nat} (h : i < l.length) : cntB q (l.take (i + 1)) = cntB q (l.take i) + (if l[i].path = q then 1 else 0) := by
  rw [List.take_succ_eq_append_getElem h, cntB_app]
  simp [cntB]
end Go.Proofs.YtphddbijdfmpjaaDoor.Q
namespace Go.Proofs.YtphddbijdfmpjaaDoor.Q
open Go.RowKit Go.MapRaw Go.Proofs.YtphddbijdfmpjaaDoorW.PrintWords Go.Proofs.YtphddbijdfmpjaaDoorW.PrintLast Go.Proofs.YtphddbijdfmpjaaDoor.Wr Go.Proofs.YtphddbijdfmpjaaDoor.Pl
set_option linter.unusedVariables false
set_option linter.unusedSimpArgs false
def aheadP (a b : ByteArray) : Bool := decide (cmpL (splitS a).1 (splitS b).1 < 0)
def aheadB (b x : Bnd) : Bool := aheadP b.path x.path || (decide (b.path = x.path) && Op.bytesLess b.name.toList x.name.toList)
theorem aheadB_iff {b x : Bnd} (hb : formedB b = true) (hx : formedB x = true) : aheadB b x = true ↔ cmpB b x < 0 := by
  unfold aheadB aheadP cmpB
  simp only [Bool.or_eq_true, Bool.and_eq_true, decide_eq_true_eq]
  by_cases e : cmpL (splitS b.path).1 (splitS x.path).1 = 0
  · rw [if_neg (by omega)]
    have hp : b.path = x.path := path_inj (formed_path hb) (formed_path hx) (cmpL_zero e)
    rw [cmpS_lt]
    constructor
    · rintro (h | h)
      · omega
      · exact h.2
    · intro h; exact .inr ⟨hp, h⟩
  · rw [if_pos (by omega)]
    constructor
    · rintro (h | h)
      · exact h
      · exact absurd (by rw [h.1]; exact ordL.self _) e
    · exact .inl
def insF (b : Bnd) : Bool → List Bnd → List Bnd
  | done, [] => if done then [] else [b]
  | done, x :: r => if (!done && aheadB b x) = true then b :: x :: insF b true r else x :: insF b done r
theorem insF_done (b : Bnd) : ∀ L, insF b true L = L
  | [] => rfl
  | x :: r => by
    show (if (!true && aheadB b x) = true then _ else x :: insF b true r) = _
    rw [if_neg (by simp), insF_done b r]
theorem insF_perm (b : Bnd) : ∀ L, (insF b false L).Perm (b :: L)
  | [] => .refl _
  | x :: r => by
    unfold insF
    split
    · rw [insF_done]
    · exact (List.Perm.cons x (insF_perm b r)).trans (List.Perm.swap b x r)
theorem insF_rising {b : Bnd} (hb : formedB b = true) : ∀ {L : List Bnd}, (∀ x ∈ L, formedB x = true) → Rising L → Rising (insF b false L)
  | [], _, _ => List.pairwise_singleton _ _
  | x :: r, hf, h => by
    have h' := List.pairwise_cons.1 h
    unfold insF
    split
    · rename_i hc
      rw [insF_done]
      have hlt : cmpB b x < 0 := (aheadB_iff hb (hf x (by simp))).1 (by simpa using hc)
      refine List.pairwise_cons.2 ⟨fun y hy => ?_, h⟩
      rcases List.mem_cons.1 hy with rfl | hy
      · omega
      · exact ordB.le b x y (by omega) (h'.1 y hy)
    · rename_i hc
      have hge : cmpB x b ≤ 0 := by
        have := ordB.neg b x
        have : ¬ cmpB b x < 0 := fun e => hc (by simpa using (aheadB_iff hb (hf x (by simp))).2 e)
        omega
      refine List.pairwise_cons.2 ⟨fun y hy => ?_, insF_rising hb (fun z hz => hf z (by simp [hz])) h'.2⟩
      rcases List.mem_cons.1 ((insF_perm b r).mem_iff.1 hy) with rfl | hy
      · exact hge
      · exact h'.1 y hy
structure Same (M : Tab) (L : List Bnd) : Prop where
  perm : L.Perm (M.map fun p => p.2)
  rise : Rising L
  keys : ∀ p ∈ M, p.1 = (p.2.path, p.2.name) ∧ formedB p.2 = true
  nodup : (M.map fun x => x.1).Nodup
theorem Same.kper {M : Tab} {L : List Bnd} (h : Same M L) : (L.map keyB).Perm (M.map fun x => x.1) := by
  have := h.perm.map Q.keyB
  rw [List.map_map] at this
  rw [show M.map (fun x => x.1) = M.map (Q.keyB ∘ fun p => p.2) from List.map_congr_left fun x hx => (h.keys x hx).1]
  exact this
theorem Same.formed {M : Tab} {L : List Bnd} (h : Same M L) : ∀ b ∈ L, formedB b = true := fun b hb => by
  obtain ⟨x, hx, rfl⟩ := List.mem_map.1 (h.perm.mem_iff.1 hb)
  exact (h.keys x hx).2
theorem Same.cnt {M : Tab} {L : List Bnd} (h : Same M L) (q : ByteArray) : cntB q L = Wr.cnt q M := by
  rw [cntB_perm q h.perm, cntB_tab q M (fun x hx => (h.keys x hx).1)]
theorem Same.has {M : Tab} {L : List Bnd} (h : Same M L) (k : Key) : (getA k M).isSome = true ↔ k ∈ L.map Q.keyB := by
  rw [getA_out]
  exact h.kper.mem_iff.symm
theorem Same.list {M : Tab} {L : List Bnd} (h : Same M L) {y : List Bnd} (hp : y.Perm (M.map fun p => p.2)) (hy : Rising y) : y = L := by
  have hpl : y.Perm L := hp.trans h.perm.symm
  have hap : (L.map Q.keyB).Nodup := h.kper.nodup_iff.2 h.nodup
  refine List.Perm.eq_of_pairwise (le := fun a b => cmpB a b ≤ 0) ?_ hy h.rise hpl
  intro a b ha hb h1 h2
  have ha' : a ∈ L := hpl.mem_iff.1 ha
  have := ordB.neg a b
  exact key_inj hap ha' hb (cmpB_key (h.formed a ha') (h.formed b hb) (by omega))
theorem Same.nil : Same [] [] := ⟨.refl _, List.Pairwise.nil, (fun p hp => absurd hp (by simp)), List.Pairwise.nil⟩
def rSetE (L : List Bnd) (b : Bnd) : Int := if formedB b = true then (if 16 ≤ cntB b.path L then 194 else 0) else 130
theorem Same.setE {M : Tab} {L : List Bnd} (h : Same M L) {b : Bnd} (hn : Q.keyB b ∉ L.map Q.keyB) : Wr.setE M b = rSetE L b := by
  unfold Wr.setE rSetE
  rw [h.cnt]
  by_cases hf : formedB b = true
  · rw [if_pos hf, if_pos hf]
    have hg : (getA (b.path, b.name) M).isNone = true := by
      rw [Option.isNone_iff_eq_none, ← Option.not_isSome_iff_eq_none]
      exact fun e => hn ((h.has _).1 e)
    simp [hg]
  · rw [if_neg hf, if_neg hf]
theorem Same.set {M : Tab} {L : List Bnd} (h : Same M L) {b : Bnd} (hn : Q.keyB b ∉ L.map Q.keyB) (h0 : rSetE L b = 0) : Same (setM M b) (insF b false L) := by
  have hf : formedB b = true := by
    unfold rSetE at h0
    by_cases hf : formedB b = true
    · exact hf
    · rw [if_neg hf] at h0; cases h0
  have hk : (b.path, b.name) ∉ M.map (fun x => x.1) := fun e => hn (h.kper.mem_iff.2 e)
  have hm : setM M b = M ++ [((b.path, b.name), b)] := by
    unfold setM
    rw [if_pos (by rw [h.setE hn, h0]), put_new hk]
  rw [hm]
  refine ⟨?_, insF_rising hf h.formed h.rise, ?_, ?_⟩
  · rw [List.map_append]
    refine (insF_perm b L).trans ?_
    refine (List.Perm.cons b h.perm).trans ?_
    simpa using (List.perm_append_singleton b (M.map fun p => p.2)).symm
  · intro p hp
    rcases List.mem_append.1 hp with hp | hp
    · exact h.keys p hp
    · simp only [List.mem_singleton] at hp; subst hp; exact ⟨rfl, hf⟩
  · rw [List.map_append, List.nodup_append]
    refine ⟨h.nodup, by simp, ?_⟩
    intro x hx y hy
    simp only [List.map_cons, List.map_nil, List.mem_singleton] at hy
    subst hy
    exact fun e => hk (e ▸ hx)
def rOf : List Bnd → List Bnd → Option (List Bnd) × Int
  | L, [] => (some L, 0)
  | L, x :: r => if formedB x = true ∧ keyB x ∈ L.map keyB then (none, 190) else if rSetE L x = 0 then rOf (insF x false L) r else (none, rSetE L x)
theorem of_same : ∀ (l : List Bnd) (M : Tab) (L : List Bnd), Same M L → ((ofS M l).1 = none ∧ (rOf L l).1 = none ∧ (ofS M l).2 = (rOf L l).2) ∨ ∃ M' L', (ofS M l).1 = some M' ∧ (rOf L l).1 = some L' ∧ (ofS M l).2 = (rOf L l).2 ∧ Same M' L'
  | [], M, L, h => .inr ⟨M, L, rfl, rfl, rfl, h⟩
  | x :: r, M, L, h => by
    unfold ofS rOf
    by_cases hf : formedB x = true
    · by_cases hk : keyB x ∈ L.map keyB
      · have hb : (getA (x.path, x.name) M).isSome = true ∧ formedB x = true := ⟨(h.has _).2 hk, hf⟩
        have hc : formedB x = true ∧ keyB x ∈ L.map keyB := ⟨hf, hk⟩
        rw [if_pos hb, if_pos hc]
        exact .inl ⟨rfl, rfl, rfl⟩
      · have hb : ¬ ((getA (x.path, x.name) M).isSome = true ∧ formedB x = true) := fun e => hk ((h.has _).1 e.1)
        have hc : ¬ (formedB x = true ∧ keyB x ∈ L.map keyB) := fun e => hk e.2
        rw [if_neg hb, if_neg hc, h.setE hk]
        by_cases h0 : rSetE L x = 0
        · rw [if_pos h0, if_pos h0]
          exact of_same r _ _ (h.set hk h0)
        · rw [if_neg h0, if_neg h0]
          exact .inl ⟨rfl, rfl, rfl⟩
    · have hb : ¬ ((getA (x.path, x.name) M).isSome = true ∧ formedB x = true) := fun e => hf e.2
      have hc : ¬ (formedB x = true ∧ keyB x ∈ L.map keyB) := fun e => hf e.1
      rw [if_neg hb, if_neg hc]
      have h1 : Wr.setE M x = 130 := by unfold Wr.setE; rw [if_neg hf]
      have h2 : rSetE L x = 130 := by unfold rSetE; rw [if_neg hf]
      rw [h1, h2, if_neg (show ¬ ((130 : Int) = 0) by decide), if_neg (show ¬ ((130 : Int) = 0) by decide)]
      exact .inl ⟨rfl, rfl, rfl⟩
def idxB (q n : ByteArray) : Nat → List Bnd → Int
  | _, [] => -1
  | i, b :: r => if b.path = q ∧ b.name = n then (i : Int) else idxB q n (i + 1) r
theorem idxB_iff (q n : ByteArray) : ∀ (L : List Bnd) (i : Nat), 0 ≤ idxB q n i L ↔ (q, n) ∈ L.map keyB
  | [], i => by simp [idxB]
  | b :: r, i => by
    unfold idxB
    rw [List.map_cons, List.mem_cons]
    by_cases h : b.path = q ∧ b.name = n
    · rw [if_pos h]
      exact ⟨fun _ => .inl (by unfold keyB; rw [h.1, h.2]), fun _ => by omega⟩
    · rw [if_neg h, idxB_iff q n r]
      refine ⟨.inr, fun e => e.elim (fun e => absurd ?_ h) id⟩
      unfold keyB at e
      injection e with e1 e2
      exact ⟨e1.symm, e2.symm⟩
theorem cntB_len (q : ByteArray) : ∀ L, cntB q L ≤ L.length
  | [] => Nat.le_refl _
  | b :: r => by have := cntB_len q r; unfold cntB; simp only [List.length_cons]; split <;> omega
theorem insF_len (b : Bnd) (L : List Bnd) : (insF b false L).length = L.length + 1 := by rw [(insF_perm b L).length_eq]; rfl
end Go.Proofs.YtphddbijdfmpjaaDoor.Q
namespace Go.Proofs.YtphddbijdfmpjaaDoor.Q
open Go.RowKit Go.Proofs.YtphddbijdfmpjaaDoorW.PrintWords Go.Proofs.YtphddbijdfmpjaaDoorW.PrintLast Go.Proofs.YtphddbijdfmpjaaDoorW.PrintMore
attribute [local go_sem] max2_int min2_int max_two min_two max_three min_three max_four min_four   -- for this text's walks alone
set_option linter.unusedVariables false
set_option linter.unusedSimpArgs false
mutual
def bursarref04_Name.j0 : Nat → ByteArray → Bool → Option (Bool)
  | 0, _, _ => none
  | k + 1, x0, x25 => if x25 = true then (some false) else (bursarref04_Name.l0 k x0 0)
def bursarref04_Name.l0 : Nat → ByteArray → Int → Option (Bool)
  | 0, _, _ => none
  | k + 1, x0, x3 => if x3 < (x0.size : Int) then (if 0 ≤ x3 then (if (bt x0 x3) ≥ 97 then (if ((bt x0 x3) ≤ 122) then (bursarref04_Name.l0 k x0 (wrap64 (x3 + 1))) else (if (bt x0 x3) ≥ 48 then (if ((bt x0 x3) ≤ 57) then (bursarref04_Name.l0 k x0 (wrap64 (x3 + 1))) else (if (bt x0 x3) = 45 then (bursarref04_Name.l0 k x0 (wrap64 (x3 + 1))) else (some false))) else (if (bt x0 x3) = 45 then (bursarref04_Name.l0 k x0 (wrap64 (x3 + 1))) else (some false)))) else (if (bt x0 x3) ≥ 48 then (if ((bt x0 x3) ≤ 57) then (bursarref04_Name.l0 k x0 (wrap64 (x3 + 1))) else (if (bt x0 x3) = 45 then (bursarref04_Name.l0 k x0 (wrap64 (x3 + 1))) else (some false))) else (if (bt x0 x3) = 45 then (bursarref04_Name.l0 k x0 (wrap64 (x3 + 1))) else (some false)))) else (none)) else (some true)
end
def bursarref04_Name.f (k : Nat) (a0 : ByteArray) : Option (Bool) := if (a0.size : Int) < 1 then (bursarref04_Name.j0 k a0 true) else (if (a0.size : Int) > 32 then (bursarref04_Name.j0 k a0 true) else (if 0 < (a0.size : Int) then (if (bt a0 0) = 45 then (bursarref04_Name.j0 k a0 true) else (if 0 ≤ (wrap64 ((a0.size : Int) - 1)) then (if (wrap64 ((a0.size : Int) - 1)) < (a0.size : Int) then (bursarref04_Name.j0 k a0 ((bt a0 (wrap64 ((a0.size : Int) - 1))) == 45)) else (none)) else (none))) else (none)))
theorem bursarref04_Name.mono_l : ∀ k, (∀ y0 y1, LeO (bursarref04_Name.j0 k y0 y1) (bursarref04_Name.j0 (k + 1) y0 y1)) ∧ (∀ y0 y1, LeO (bursarref04_Name.l0 k y0 y1) (bursarref04_Name.l0 (k + 1) y0 y1))
  | 0 => ⟨fun _ _ r h => by simp [bursarref04_Name.j0] at h, fun _ _ r h => by simp [bursarref04_Name.l0] at h⟩
  | k + 1 => by
    obtain ⟨ih0, ih1⟩ := bursarref04_Name.mono_l k
    refine ⟨?_, ?_⟩
    · intro y0 y1
      unfold bursarref04_Name.j0
      repeat' first
      | (with_reducible exact ih0 _ _)
      | (with_reducible exact ih1 _ _)
      | (with_reducible exact LeO.refl _)
      | (with_reducible exact LeO.none _)
      | (with_reducible refine LeO.ite ?_ ?_)
      | (with_reducible refine LeO.bind ?_ (fun _ => ?_))
      | exact ih0 _ _
      | exact ih1 _ _
      | exact LeO.none _
      | refine LeO.ite ?_ ?_
      | refine LeO.bind ?_ (fun _ => ?_)
    · intro y0 y1
      unfold bursarref04_Name.l0
      repeat' first
      | (with_reducible exact ih0 _ _)
      | (with_reducible exact ih1 _ _)
      | (with_reducible exact LeO.refl _)
      | (with_reducible exact LeO.none _)
      | (with_reducible refine LeO.ite ?_ ?_)
      | (with_reducible refine LeO.bind ?_ (fun _ => ?_))
      | exact ih0 _ _
      | exact ih1 _ _
      | exact LeO.none _
      | refine LeO.ite ?_ ?_
      | refine LeO.bind ?_ (fun _ => ?_)
theorem bursarref04_Name.mono : ∀ a0 k, LeO (bursarref04_Name.f k a0) (bursarref04_Name.f (k + 1) a0) := by
  intro a0 k
  obtain ⟨ih0, ih1⟩ := bursarref04_Name.mono_l k
  unfold bursarref04_Name.f
  repeat' first
      | (with_reducible exact ih0 _ _)
      | (with_reducible exact ih1 _ _)
      | (with_reducible exact LeO.refl _)
      | (with_reducible exact LeO.none _)
      | (with_reducible refine LeO.ite ?_ ?_)
      | (with_reducible refine LeO.bind ?_ (fun _ => ?_))
      | exact ih0 _ _
      | exact ih1 _ _
      | exact LeO.none _
      | refine LeO.ite ?_ ?_
      | refine LeO.bind ?_ (fun _ => ?_)
set_option maxHeartbeats 8000000 in
set_option maxRecDepth 100000 in
theorem bursarref04_Name.calls (k : Nat) (a0 : ByteArray) (r : Bool) (w : World) (h : bursarref04_Name.f k a0 = some r) :
    Calls Tryd.prog 72 #[.string a0] w fun e w' => e = .returned (.bool r) ∧ Drawn0 w w' := by
  have H : (if (a0.size : Int) < 1 then (bursarref04_Name.j0 k a0 true) else (if (a0.size : Int) > 32 then (bursarref04_Name.j0 k a0 true) else (if 0 < (a0.size : Int) then (if (bt a0 0) = 45 then (bursarref04_Name.j0 k a0 true) else (if 0 ≤ (wrap64 ((a0.size : Int) - 1)) then (if (wrap64 ((a0.size : Int) - 1)) < (a0.size : Int) then (bursarref04_Name.j0 k a0 ((bt a0 (wrap64 ((a0.size : Int) - 1))) == 45)) else (none)) else (none))) else (none)))) = some r := h
  clear h
  have HC2 := Aside0.mk H
  clear H
  go_enter Tryd.func72, Tryd.ntmps72
  go_upto_region 1 with (fail)
  go_cut [25] (fun v25 wc => ∃ (kq : Nat) (x25_1 : Bool), v25 = .bool x25_1 ∧ Aside0 (bursarref04_Name.j0 kq a0 x25_1 = some r) ∧ Aside0 (kq ≤ k) ∧ Drawn0 w wc)
  case first =>
    have H := HC2.out
    clear HC2
    by_cases c3 : (a0.size : Int) < 1
    · rw [if_pos c3] at H
      have c3b0 : decide ((a0.size : Int) < 1) = true := decide_eq_true c3
      have c3b1 : decide (a0.size < 1) = true := decide_eq_true (by omega)
      clear c3
      (first | rw [c3b0] | (simp only [i64_w, i32_w]; rw [c3b0]) | skip)
      have H' := Aside0.mk H
      clear H
      go_wp2
      go_meet
      case rel => exact ⟨_, (true), (by first | rfl | (simp; done) | (simp [*]; done) | (simp; rw [Bool.eq_iff_iff]; simp; done) | (rw [Bool.eq_iff_iff]; simp; done)), H', ⟨by first | omega | exact Nat.le_refl _⟩, by repeat (first | exact Drawn0.refl _ | apply Drawn0.step)⟩
    · rw [if_neg c3] at H
      have c3b0 : decide ((a0.size : Int) < 1) = false := decide_eq_false c3
      have c3b1 : decide (a0.size < 1) = false := decide_eq_false (by omega)
      clear c3
      (first | rw [c3b0] | (simp only [i64_w, i32_w]; rw [c3b0]) | skip)
      by_cases c4 : (a0.size : Int) > 32
      · rw [if_pos c4] at H
        have c4b0 : decide (32 < (a0.size : Int)) = true := decide_eq_true c4
        have c4b1 : decide (32 < a0.size) = true := decide_eq_true (by omega)
        clear c4
        have H' := Aside0.mk H
        clear H
        go_wp2
        go_meet
        case rel => exact ⟨_, (true), (by first | rfl | (simp; done) | (simp [*]; done) | (simp; rw [Bool.eq_iff_iff]; simp; done) | (rw [Bool.eq_iff_iff]; simp; done)), H', ⟨by first | omega | exact Nat.le_refl _⟩, by repeat (first | exact Drawn0.refl _ | apply Drawn0.step)⟩
      · rw [if_neg c4] at H
        have c4b0 : decide (32 < (a0.size : Int)) = false := decide_eq_false c4
        have c4b1 : decide (32 < a0.size) = false := decide_eq_false (by omega)
        clear c4
        by_cases c5 : 0 < (a0.size : Int)
        · rw [if_pos c5] at H
          have c5b0 : decide (0 < (a0.size : Int)) = true := decide_eq_true c5
          have c5b1 : decide (0 < a0.size) = true := decide_eq_true (by omega)
          clear c5
          by_cases c7 : (bt a0 0) = 45
          · rw [if_pos c7] at H
            have c7b0 : ((bt a0 0) == 45) = true := beq_iff_eq.mpr c7
            have c7b1 : ((bt a0 0) != 45) = false := bne_eq_false_iff_eq.mpr c7
            clear c7
            have H' := Aside0.mk H
            clear H
            have p6 : 0 ≤ (0 : Int) := (by omega)
            have q6 : 0 < a0.size := (by have : (0 : Int) < (a0.size : Int) := of_decide_eq_true (by first | (with_reducible assumption) | assumption); omega)
            have hx6 : ∀ h : 0 < a0.size, ((a0[0]'h).toNat : Int) = bt a0 0 := bt_at a0 0
            clear p6
            have qi6 : (0 < (a0.size : Int)) = True := eq_true (of_decide_eq_true (by first | (with_reducible assumption) | assumption))
            replace q6 := eq_true q6
            go_wp2
            go_meet
            case rel => exact ⟨_, (true), (by first | rfl | (simp; done) | (simp [*]; done) | (simp; rw [Bool.eq_iff_iff]; simp; done) | (rw [Bool.eq_iff_iff]; simp; done)), H', ⟨by first | omega | exact Nat.le_refl _⟩, by repeat (first | exact Drawn0.refl _ | apply Drawn0.step)⟩
          · rw [if_neg c7] at H
            have c7b0 : ((bt a0 0) == 45) = false := beq_eq_false_iff_ne.mpr c7
            have c7b1 : ((bt a0 0) != 45) = true := bne_iff_ne.mpr c7
            obtain ⟨ji8, hji8⟩ : ∃ j_ : Int, (wrap64 ((a0.size : Int) - 1)) = j_ := ⟨_, rfl⟩
            replace H : (if 0 ≤ (ji8) then (if (ji8) < (a0.size : Int) then (bursarref04_Name.j0 k a0 ((bt a0 (ji8)) == 45)) else (none)) else (none)) = some r := by first | (rw [hji8] at H; exact H) | (simp only [hji8] at H ⊢; exact H)
            have hji8w : (IntKind.i64.wrap ((a0.size : Int) - 1)) = ji8 := (i64_w _).trans hji8
            by_cases c9 : 0 ≤ (ji8)
            · rw [if_pos c9] at H
              have c9b0 : decide (0 ≤ (ji8)) = true := decide_eq_true c9
              clear c9
              by_cases c10 : (ji8) < (a0.size : Int)
              · rw [if_pos c10] at H
                have c10b0 : decide ((ji8) < (a0.size : Int)) = true := decide_eq_true c10
                clear c10
                have H' := Aside0.mk H
                clear H
                have p6 : 0 ≤ (0 : Int) := (by omega)
                have q6 : 0 < a0.size := (by have : (0 : Int) < (a0.size : Int) := of_decide_eq_true (by first | (with_reducible assumption) | assumption); omega)
                have hx6 : ∀ h : 0 < a0.size, ((a0[0]'h).toNat : Int) = bt a0 0 := bt_at a0 0
                clear p6
                have qi6 : (0 < (a0.size : Int)) = True := eq_true (of_decide_eq_true (by first | (with_reducible assumption) | assumption))
                replace q6 := eq_true q6
                have p11 : 0 ≤ ((ji8) : Int) := of_decide_eq_true (by first | (with_reducible assumption) | assumption)
                have q11 : (ji8) < (a0.size : Int) := of_decide_eq_true (by first | (with_reducible assumption) | assumption)
                have hx11 := bt_at a0 (ji8)
                replace p11 := eq_true p11
                replace q11 := eq_true q11
                go_wp2
                go_meet
                case rel => exact ⟨_, (((bt a0 (ji8)) == 45)), (by first | rfl | (simp; done) | (simp only [← hji8] <;> (first | rfl | simp)) | (simp [*]; done)), H', ⟨by first | omega | exact Nat.le_refl _⟩, by repeat (first | exact Drawn0.refl _ | apply Drawn0.step)⟩
              · rw [if_neg c10] at H
                exact absurd H (by simp)
            · rw [if_neg c9] at H
              exact absurd H (by simp)
        · rw [if_neg c5] at H
          exact absurd H (by simp)
  case rest =>
    clear HC2
    try clear c1
    try clear p1
    try clear q1
    try clear hx1
    try clear p2
    try clear c3
    try clear c3b0
    try clear c3b1
    try clear c4
    try clear c4b0
    try clear c4b1
    try clear c5
    try clear c5b0
    try clear c5b1
    try clear p6
    try clear q6
    try clear hx6
    try clear qi6
    try clear c7
    try clear c7b0
    try clear c7b1
    try clear c9
    try clear c9b0
    try clear c10
    try clear c10b0
    try clear p11
    try clear q11
    try clear hx11
    try clear p11
    try clear p6
    try clear q11
    try clear q6
    obtain ⟨kq, x25_1, rfl, HA, HJ1, ⟨mc1, rfl⟩⟩ := hcut
    cases kq with
    | zero => exact absurd HA.out (by simp [bursarref04_Name.j0])
    | succ kj1 =>
      have H := HA.out
      clear HA
      simp only [bursarref04_Name.j0] at H
      by_cases c12 : x25_1 = true
      · subst c12
        have H1 : (some false) = some r := by rw [if_pos rfl] at H; exact H
        clear H
        have H := H1
        clear H1
        obtain rfl := Option.some.inj H
        go_wp2
        go_ret
        exact ⟨by first | rfl | (simp; done) | (simp [*]; done), by repeat (first | exact Drawn0.refl _ | apply Drawn0.step)⟩
      · replace c12 := Bool.eq_false_iff.mpr c12
        subst c12
        have H1 : (bursarref04_Name.l0 kj1 a0 0) = some r := by rw [if_neg (show ¬ (false = true) by decide)] at H; exact H
        clear H
        have H := H1
        clear H1
        have H' := Aside0.mk H
        clear H
        go_wp2
        go_loopg [3] kj1 (fun kq v3 w' => ∃ (x3_2 : Int), v3 = .int .i64 x3_2 ∧ Aside0 (bursarref04_Name.l0 kq a0 x3_2 = some r) ∧ Aside0 (kq ≤ kj1) ∧ Drawn0 w w')
        case atStart => exact ⟨(0), (by first | rfl | (simp; done) | (simp [*]; done) | (simp; rw [Bool.eq_iff_iff]; simp; done) | (rw [Bool.eq_iff_iff]; simp; done)), H', ⟨Nat.le_refl _⟩, by repeat (first | exact Drawn0.refl _ | apply Drawn0.step)⟩
        case round =>
          clear H'
          try clear c1
          try clear p1
          try clear q1
          try clear hx1
          try clear p2
          try clear c3
          try clear c3b0
          try clear c3b1
          try clear c4
          try clear c4b0
          try clear c4b1
          try clear c5
          try clear c5b0
          try clear c5b1
          try clear p6
          try clear q6
          try clear hx6
          try clear qi6
          try clear c7
          try clear c7b0
          try clear c7b1
          try clear c9
          try clear c9b0
          try clear c10
          try clear c10b0
          try clear p11
          try clear q11
          try clear hx11
          try clear c12
          try clear p1
          try clear p11
          try clear p2
          try clear p6
          try clear q1
          try clear q11
          try clear q6
          obtain ⟨x3_2, rfl, HA, HK2, ⟨m2, rfl⟩⟩ := hrel
          cases gk with
          | zero => exact absurd HA.out (by simp [bursarref04_Name.l0])
          | succ k2 =>
            have H := HA.out
            clear HA
            simp only [bursarref04_Name.l0] at H
            by_cases c13 : x3_2 < (a0.size : Int)
            · rw [if_pos c13] at H
              have c13b0 : decide (x3_2 < (a0.size : Int)) = true := decide_eq_true c13
              clear c13
              by_cases c14 : 0 ≤ x3_2
              · rw [if_pos c14] at H
                have c14b0 : decide (0 ≤ x3_2) = true := decide_eq_true c14
                clear c14
                by_cases c16 : (bt a0 x3_2) ≥ 97
                · rw [if_pos c16] at H
                  have c16b0 : decide (97 ≤ (bt a0 x3_2)) = true := decide_eq_true c16
                  clear c16
                  by_cases c17 : ((bt a0 x3_2) ≤ 122)
                  · rw [if_pos c17] at H
                    have c17b0 : decide ((bt a0 x3_2) ≤ 122) = true := decide_eq_true c17
                    clear c17
                    have H' := Aside0.mk H
                    clear H
                    have p15 : 0 ≤ (x3_2 : Int) := of_decide_eq_true (by first | (with_reducible assumption) | assumption)
                    have q15 : x3_2 < (a0.size : Int) := of_decide_eq_true (by first | (with_reducible assumption) | assumption)
                    have hx15 := bt_at a0 x3_2
                    replace p15 := eq_true p15
                    replace q15 := eq_true q15
                    go_wp2
                    go_roundg k2
                    case measure => have := HJ1.out; have := HK2.out; omega
                    case rel => exact ⟨(wrap64 (x3_2 + 1)), (by first | rfl | (simp; done) | (simp [*]; done) | (simp; rw [Bool.eq_iff_iff]; simp; done) | (rw [Bool.eq_iff_iff]; simp; done)), H', ⟨by have := HJ1.out; have := HK2.out; omega⟩, by repeat (first | exact Drawn0.refl _ | apply Drawn0.step)⟩
                  · rw [if_neg c17] at H
                    have c17b0 : decide ((bt a0 x3_2) ≤ 122) = false := decide_eq_false c17
                    clear c17
                    by_cases c18 : (bt a0 x3_2) ≥ 48
                    · rw [if_pos c18] at H
                      have c18b0 : decide (48 ≤ (bt a0 x3_2)) = true := decide_eq_true c18
                      clear c18
                      by_cases c19 : ((bt a0 x3_2) ≤ 57)
                      · rw [if_pos c19] at H
                        have c19b0 : decide ((bt a0 x3_2) ≤ 57) = true := decide_eq_true c19
                        clear c19
                        have H' := Aside0.mk H
                        clear H
                        have p15 : 0 ≤ (x3_2 : Int) := of_decide_eq_true (by first | (with_reducible assumption) | assumption)
                        have q15 : x3_2 < (a0.size : Int) := of_decide_eq_true (by first | (with_reducible assumption) | assumption)
                        have hx15 := bt_at a0 x3_2
                        replace p15 := eq_true p15
                        replace q15 := eq_true q15
                        go_wp2
                        go_roundg k2
                        case measure => have := HJ1.out; have := HK2.out; omega
                        case rel => exact ⟨(wrap64 (x3_2 + 1)), (by first | rfl | (simp; done) | (simp [*]; done) | (simp; rw [Bool.eq_iff_iff]; simp; done) | (rw [Bool.eq_iff_iff]; simp; done)), H', ⟨by have := HJ1.out; have := HK2.out; omega⟩, by repeat (first | exact Drawn0.refl _ | apply Drawn0.step)⟩
                      · rw [if_neg c19] at H
                        have c19b0 : decide ((bt a0 x3_2) ≤ 57) = false := decide_eq_false c19
                        clear c19
                        by_cases c20 : (bt a0 x3_2) = 45
                        · rw [if_pos c20] at H
                          have c20b0 : ((bt a0 x3_2) == 45) = true := beq_iff_eq.mpr c20
                          have c20b1 : ((bt a0 x3_2) != 45) = false := bne_eq_false_iff_eq.mpr c20
                          clear c20
                          have H' := Aside0.mk H
                          clear H
                          have p15 : 0 ≤ (x3_2 : Int) := of_decide_eq_true (by first | (with_reducible assumption) | assumption)
                          have q15 : x3_2 < (a0.size : Int) := of_decide_eq_true (by first | (with_reducible assumption) | assumption)
                          have hx15 := bt_at a0 x3_2
                          replace p15 := eq_true p15
                          replace q15 := eq_true q15
                          go_wp2
                          go_roundg k2
                          case measure => have := HJ1.out; have := HK2.out; omega
                          case rel => exact ⟨(wrap64 (x3_2 + 1)), (by first | rfl | (simp; done) | (simp [*]; done) | (simp; rw [Bool.eq_iff_iff]; simp; done) | (rw [Bool.eq_iff_iff]; simp; done)), H', ⟨by have := HJ1.out; have := HK2.out; omega⟩, by repeat (first | exact Drawn0.refl _ | apply Drawn0.step)⟩
                        · rw [if_neg c20] at H
                          have c20b0 : ((bt a0 x3_2) == 45) = false := beq_eq_false_iff_ne.mpr c20
                          have c20b1 : ((bt a0 x3_2) != 45) = true := bne_iff_ne.mpr c20
                          obtain rfl := Option.some.inj H
                          have p15 : 0 ≤ (x3_2 : Int) := of_decide_eq_true (by first | (with_reducible assumption) | assumption)
                          have q15 : x3_2 < (a0.size : Int) := of_decide_eq_true (by first | (with_reducible assumption) | assumption)
                          have hx15 := bt_at a0 x3_2
                          replace p15 := eq_true p15
                          replace q15 := eq_true q15
                          go_wp2
                          go_ret
                          exact ⟨by first | rfl | (simp; done) | (simp [*]; done), by repeat (first | exact Drawn0.refl _ | apply Drawn0.step)⟩
                    · rw [if_neg c18] at H
                      have c18b0 : decide (48 ≤ (bt a0 x3_2)) = false := decide_eq_false c18
                      clear c18
                      by_cases c21 : (bt a0 x3_2) = 45
                      · rw [if_pos c21] at H
                        have c21b0 : ((bt a0 x3_2) == 45) = true := beq_iff_eq.mpr c21
                        have c21b1 : ((bt a0 x3_2) != 45) = false := bne_eq_false_iff_eq.mpr c21
                        clear c21
                        have H' := Aside0.mk H
                        clear H
                        have p15 : 0 ≤ (x3_2 : Int) := of_decide_eq_true (by first | (with_reducible assumption) | assumption)
                        have q15 : x3_2 < (a0.size : Int) := of_decide_eq_true (by first | (with_reducible assumption) | assumption)
                        have hx15 := bt_at a0 x3_2
                        replace p15 := eq_true p15
                        replace q15 := eq_true q15
                        go_wp2
                        go_roundg k2
                        case measure => have := HJ1.out; have := HK2.out; omega
                        case rel => exact ⟨(wrap64 (x3_2 + 1)), (by first | rfl | (simp; done) | (simp [*]; done) | (simp; rw [Bool.eq_iff_iff]; simp; done) | (rw [Bool.eq_iff_iff]; simp; done)), H', ⟨by have := HJ1.out; have := HK2.out; omega⟩, by repeat (first | exact Drawn0.refl _ | apply Drawn0.step)⟩
                      · rw [if_neg c21] at H
                        have c21b0 : ((bt a0 x3_2) == 45) = false := beq_eq_false_iff_ne.mpr c21
                        have c21b1 : ((bt a0 x3_2) != 45) = true := bne_iff_ne.mpr c21
                        obtain rfl := Option.some.inj H
                        have p15 : 0 ≤ (x3_2 : Int) := of_decide_eq_true (by first | (with_reducible assumption) | assumption)
                        have q15 : x3_2 < (a0.size : Int) := of_decide_eq_true (by first | (with_reducible assumption) | assumption)
                        have hx15 := bt_at a0 x3_2
                        replace p15 := eq_true p15
                        replace q15 := eq_true q15
                        go_wp2
                        go_ret
                        exact ⟨by first | rfl | (simp; done) | (simp [*]; done), by repeat (first | exact Drawn0.refl _ | apply Drawn0.step)⟩
                · rw [if_neg c16] at H
                  have c16b0 : decide (97 ≤ (bt a0 x3_2)) = false := decide_eq_false c16
                  clear c16
                  by_cases c22 : (bt a0 x3_2) ≥ 48
                  · rw [if_pos c22] at H
                    have c22b0 : decide (48 ≤ (bt a0 x3_2)) = true := decide_eq_true c22
                    clear c22
                    by_cases c23 : ((bt a0 x3_2) ≤ 57)
                    · rw [if_pos c23] at H
                      have c23b0 : decide ((bt a0 x3_2) ≤ 57) = true := decide_eq_true c23
                      clear c23
                      have H' := Aside0.mk H
                      clear H
                      have p15 : 0 ≤ (x3_2 : Int) := of_decide_eq_true (by first | (with_reducible assumption) | assumption)
                      have q15 : x3_2 < (a0.size : Int) := of_decide_eq_true (by first | (with_reducible assumption) | assumption)
                      have hx15 := bt_at a0 x3_2
                      replace p15 := eq_true p15
                      replace q15 := eq_true q15
                      go_wp2
                      go_roundg k2
                      case measure => have := HJ1.out; have := HK2.out; omega
                      case rel => exact ⟨(wrap64 (x3_2 + 1)), (by first | rfl | (simp; done) | (simp [*]; done) | (simp; rw [Bool.eq_iff_iff]; simp; done) | (rw [Bool.eq_iff_iff]; simp; done)), H', ⟨by have := HJ1.out; have := HK2.out; omega⟩, by repeat (first | exact Drawn0.refl _ | apply Drawn0.step)⟩
                    · rw [if_neg c23] at H
                      have c23b0 : decide ((bt a0 x3_2) ≤ 57) = false := decide_eq_false c23
                      clear c23
                      by_cases c24 : (bt a0 x3_2) = 45
                      · rw [if_pos c24] at H
                        have c24b0 : ((bt a0 x3_2) == 45) = true := beq_iff_eq.mpr c24
                        have c24b1 : ((bt a0 x3_2) != 45) = false := bne_eq_false_iff_eq.mpr c24
                        clear c24
                        have H' := Aside0.mk H
                        clear H
                        have p15 : 0 ≤ (x3_2 : Int) := of_decide_eq_true (by first | (with_reducible assumption) | assumption)
                        have q15 : x3_2 < (a0.size : Int) := of_decide_eq_true (by first | (with_reducible assumption) | assumption)
                        have hx15 := bt_at a0 x3_2
                        replace p15 := eq_true p15
                        replace q15 := eq_true q15
                        go_wp2
                        go_roundg k2
                        case measure => have := HJ1.out; have := HK2.out; omega
                        case rel => exact ⟨(wrap64 (x3_2 + 1)), (by first | rfl | (simp; done) | (simp [*]; done) | (simp; rw [Bool.eq_iff_iff]; simp; done) | (rw [Bool.eq_iff_iff]; simp; done)), H', ⟨by have := HJ1.out; have := HK2.out; omega⟩, by repeat (first | exact Drawn0.refl _ | apply Drawn0.step)⟩
                      · rw [if_neg c24] at H
                        have c24b0 : ((bt a0 x3_2) == 45) = false := beq_eq_false_iff_ne.mpr c24
                        have c24b1 : ((bt a0 x3_2) != 45) = true := bne_iff_ne.mpr c24
                        obtain rfl := Option.some.inj H
                        have p15 : 0 ≤ (x3_2 : Int) := of_decide_eq_true (by first | (with_reducible assumption) | assumption)
                        have q15 : x3_2 < (a0.size : Int) := of_decide_eq_true (by first | (with_reducible assumption) | assumption)
                        have hx15 := bt_at a0 x3_2
                        replace p15 := eq_true p15
                        replace q15 := eq_true q15
                        go_wp2
                        go_ret
                        exact ⟨by first | rfl | (simp; done) | (simp [*]; done), by repeat (first | exact Drawn0.refl _ | apply Drawn0.step)⟩
                  · rw [if_neg c22] at H
                    have c22b0 : decide (48 ≤ (bt a0 x3_2)) = false := decide_eq_false c22
                    clear c22
                    by_cases c25 : (bt a0 x3_2) = 45
                    · rw [if_pos c25] at H
                      have c25b0 : ((bt a0 x3_2) == 45) = true := beq_iff_eq.mpr c25
                      have c25b1 : ((bt a0 x3_2) != 45) = false := bne_eq_false_iff_eq.mpr c25
                      clear c25
                      have H' := Aside0.mk H
                      clear H
                      have p15 : 0 ≤ (x3_2 : Int) := of_decide_eq_true (by first | (with_reducible assumption) | assumption)
                      have q15 : x3_2 < (a0.size : Int) := of_decide_eq_true (by first | (with_reducible assumption) | assumption)
                      have hx15 := bt_at a0 x3_2
                      replace p15 := eq_true p15
                      replace q15 := eq_true q15
                      go_wp2
                      go_roundg k2
                      case measure => have := HJ1.out; have := HK2.out; omega
                      case rel => exact ⟨(wrap64 (x3_2 + 1)), (by first | rfl | (simp; done) | (simp [*]; done) | (simp; rw [Bool.eq_iff_iff]; simp; done) | (rw [Bool.eq_iff_iff]; simp; done)), H', ⟨by have := HJ1.out; have := HK2.out; omega⟩, by repeat (first | exact Drawn0.refl _ | apply Drawn0.step)⟩
                    · rw [if_neg c25] at H
                      have c25b0 : ((bt a0 x3_2) == 45) = false := beq_eq_false_iff_ne.mpr c25
                      have c25b1 : ((bt a0 x3_2) != 45) = true := bne_iff_ne.mpr c25
                      obtain rfl := Option.some.inj H
                      have p15 : 0 ≤ (x3_2 : Int) := of_decide_eq_true (by first | (with_reducible assumption) | assumption)
                      have q15 : x3_2 < (a0.size : Int) := of_decide_eq_true (by first | (with_reducible assumption) | assumption)
                      have hx15 := bt_at a0 x3_2
                      replace p15 := eq_true p15
                      replace q15 := eq_true q15
                      go_wp2
                      go_ret
                      exact ⟨by first | rfl | (simp; done) | (simp [*]; done), by repeat (first | exact Drawn0.refl _ | apply Drawn0.step)⟩
              · rw [if_neg c14] at H
                exact absurd H (by simp)
            · rw [if_neg c13] at H
              have c13b0 : decide (x3_2 < (a0.size : Int)) = false := decide_eq_false c13
              clear c13
              obtain rfl := Option.some.inj H
              go_wp2
              go_ret
              exact ⟨by first | rfl | (simp; done) | (simp [*]; done), by repeat (first | exact Drawn0.refl _ | apply Drawn0.step)⟩
end Go.Proofs.YtphddbijdfmpjaaDoor.Q
namespace Go.Proofs.YtphddbijdfmpjaaDoor.Q
open Go.RowKit Go.Proofs.YtphddbijdfmpjaaDoorW.PrintWords Go.Proofs.YtphddbijdfmpjaaDoorW.PrintLast Go.Proofs.YtphddbijdfmpjaaDoorW.PrintMore
attribute [local go_sem] max2_int min2_int max_two min_two max_three min_three max_four min_four   -- for this text's walks alone
set_option linter.unusedVariables false
set_option linter.unusedSimpArgs false
def bursarref04_pieces.l0 : Nat → ByteArray → Int → List ByteArray → Int → Int → Option (List ByteArray)
  | 0, _, _, _, _, _ => none
  | k + 1, x0, x1, x5, x6, x7 => if x7 ≤ (x0.size : Int) then (if x7 = (x0.size : Int) then (if 0 ≤ x6 then (if x6 ≤ x7 then (if x5.length < 8796093022208 then (bursarref04_pieces.l0 k x0 x1 (x5 ++ [x0.extract (x6 : Int).toNat (x7 : Int).toNat]) (wrap64 (x7 + 1)) (wrap64 (x7 + 1))) else (none)) else (none)) else (none)) else (if 0 ≤ x7 then (if x7 < (x0.size : Int) then (if (bt x0 x7) = x1 then (if 0 ≤ x6 then (if x6 ≤ x7 then (if x5.length < 8796093022208 then (bursarref04_pieces.l0 k x0 x1 (x5 ++ [x0.extract (x6 : Int).toNat (x7 : Int).toNat]) (wrap64 (x7 + 1)) (wrap64 (x7 + 1))) else (none)) else (none)) else (none)) else (bursarref04_pieces.l0 k x0 x1 x5 x6 (wrap64 (x7 + 1)))) else (none)) else (none))) else (some x5)
def bursarref04_pieces.f (k : Nat) (a0 : ByteArray) (a1 : Int) : Option (List ByteArray) := bursarref04_pieces.l0 k a0 a1 ([] : List ByteArray) 0 0
theorem bursarref04_pieces.mono_l : ∀ k, (∀ y0 y1 y2 y3 y4, LeO (bursarref04_pieces.l0 k y0 y1 y2 y3 y4) (bursarref04_pieces.l0 (k + 1) y0 y1 y2 y3 y4))
  | 0 => fun _ _ _ _ _ r h => by simp [bursarref04_pieces.l0] at h
  | k + 1 => by
    have ih0 := bursarref04_pieces.mono_l k
    · intro y0 y1 y2 y3 y4
      unfold bursarref04_pieces.l0
      repeat' first
      | (with_reducible exact ih0 _ _ _ _ _)
      | (with_reducible exact LeO.refl _)
      | (with_reducible exact LeO.none _)
      | (with_reducible refine LeO.ite ?_ ?_)
      | (with_reducible refine LeO.bind ?_ (fun _ => ?_))
      | exact ih0 _ _ _ _ _
      | exact LeO.none _
      | refine LeO.ite ?_ ?_
      | refine LeO.bind ?_ (fun _ => ?_)
theorem bursarref04_pieces.mono : ∀ a0 a1 k, LeO (bursarref04_pieces.f k a0 a1) (bursarref04_pieces.f (k + 1) a0 a1) := by
  intro a0 a1 k
  have ih0 := bursarref04_pieces.mono_l k
  unfold bursarref04_pieces.f
  repeat' first
      | (with_reducible exact ih0 _ _ _ _ _)
      | (with_reducible exact LeO.refl _)
      | (with_reducible exact LeO.none _)
      | (with_reducible refine LeO.ite ?_ ?_)
      | (with_reducible refine LeO.bind ?_ (fun _ => ?_))
      | exact ih0 _ _ _ _ _
      | exact LeO.none _
      | refine LeO.ite ?_ ?_
      | refine LeO.bind ?_ (fun _ => ?_)
set_option maxHeartbeats 8000000 in
set_option maxRecDepth 100000 in
theorem bursarref04_pieces.calls (k : Nat) (a0 : ByteArray) (a1 : Int) (r : List ByteArray) (w : World) (h : bursarref04_pieces.f k a0 a1 = some r) :
    Calls Tryd.prog 93 #[.string a0, .int .u8 a1] w fun e w' => ∃ v0_ : Value, e = .returned (v0_) ∧ Kd.R Kd.string 9 w' w.heap.size (fun _ => True) v0_ r ∧ Below w.heap.size w w' := by
  have HB := Aside0.mk (Below.refl w.heap.size w)
  have H : (bursarref04_pieces.l0 k a0 a1 ([] : List ByteArray) 0 0) = some r := h
  clear h
  have H' := Aside0.mk H
  clear H
  go_enter Tryd.func93, Tryd.ntmps93
  go_wp2
  go_loopg [5, 6, 7] k (fun kq v5 v6 v7 w' => ∃ (x5_1 : List ByteArray) (x6_1 : Int) (x7_1 : Int), v6 = .int .i64 x6_1 ∧ v7 = .int .i64 x7_1 ∧ Aside0 (bursarref04_pieces.l0 kq a0 a1 x5_1 x6_1 x7_1 = some r) ∧ Aside0 (kq ≤ k) ∧ Aside0 (Kd.R Kd.string 9 w' w.heap.size (fun _ => True) v5 x5_1) ∧ Aside0 (Below w.heap.size w w'))
  case atStart => exact ⟨(([] : List ByteArray)), (0), (0), (by first | rfl | (simp; done) | (simp [*]; done) | (simp; rw [Bool.eq_iff_iff]; simp; done) | (rw [Bool.eq_iff_iff]; simp; done)), (by first | rfl | (simp; done) | (simp [*]; done) | (simp; rw [Bool.eq_iff_iff]; simp; done) | (rw [Bool.eq_iff_iff]; simp; done)), H', ⟨Nat.le_refl _⟩, ⟨by first | exact Kd.R_nil _ _ _ _ _ | exact Kd.N_nil _ _ _ _ _ | exact Kd.V_nil _ _ _ _ _ | exact Kd.Q_nil _ _ _ _ _ | exact Kd.S_nil _ _ _ _ _⟩, ⟨by repeat (first | (with_reducible first | exact HB.out | apply below_alloc | apply pw_below_drewN | apply below_drew1) | exact HB.out)⟩⟩
  case round =>
    clear H'
    try clear p2
    obtain ⟨x5_1, x6_1, x7_1, rfl, rfl, HA, HK1, HO_5, HB⟩ := hrel
    cases gk with
    | zero => exact absurd HA.out (by simp [bursarref04_pieces.l0])
    | succ k1 =>
      have H := HA.out
      clear HA
      simp only [bursarref04_pieces.l0] at H
      by_cases c3 : x7_1 ≤ (a0.size : Int)
      · rw [if_pos c3] at H
        have c3b0 : decide (x7_1 ≤ (a0.size : Int)) = true := decide_eq_true c3
        clear c3
        by_cases c4 : x7_1 = (a0.size : Int)
        · rw [if_pos c4] at H
          have c4b0 : (x7_1 == (a0.size : Int)) = true := beq_iff_eq.mpr c4
          have c4b1 : (x7_1 != (a0.size : Int)) = false := bne_eq_false_iff_eq.mpr c4
          clear c4
          by_cases c5 : 0 ≤ x6_1
          · rw [if_pos c5] at H
            have c5b0 := eq_true c5
            have c5b1 : decide (0 ≤ x6_1) = true := decide_eq_true c5
            clear c5
            by_cases c6 : x6_1 ≤ x7_1
            · rw [if_pos c6] at H
              have c6b0 := eq_true c6
              have c6b1 : decide (x6_1 ≤ x7_1) = true := decide_eq_true c6
              clear c6
              have c7b0 := eq_true (of_decide_eq_true (by first | (with_reducible assumption) | assumption) : x7_1 ≤ (a0.size : Int))
              by_cases c8 : x5_1.length < 8796093022208
              · rw [if_pos c8] at H
                have LMc8 := Aside0.mk c8
                clear c8
                obtain ⟨y140, hy140⟩ : ∃ y_ : List ByteArray, y_ = (x5_1 ++ [a0.extract (x6_1 : Int).toNat (x7_1 : Int).toNat]) := ⟨_, rfl⟩
                replace H : (bursarref04_pieces.l0 k1 a0 a1 y140 (wrap64 (x7_1 + 1)) (wrap64 (x7_1 + 1))) = some r := by first | (rw [hy140]; with_reducible exact H) | (have H2_ := (Option.bind_some _ _).symm.trans H; rw [hy140]; with_reducible exact H2_) | (have H2_ := (Option.bind_some _ _).symm.trans H; with_reducible exact H2_) | with_reducible exact H | (rw [hy140]; exact H) | exact H
                have Ny140 := Aside0.mk hy140
                clear hy140
                have H' := Aside0.mk H
                clear H
                go_wp2_with (first | ((with_reducible refine gate_builtin (b := .append) (xs := #[.tmp 25, .tmp 30]) rfl ?_); at_builtin; refine Kd.R_append Kd.string (w0 := w) w.heap.size rfl (.tmp 25) (.tmp 30) 30 9 (.string ⟨#[]⟩) 16 rfl Tryd.underlying30 info9 rfl (by decide) (by omega) u5 x5_1 (a0.extract (x6_1 : Int).toNat (x7_1 : Int).toNat) [.string (a0.extract (x6_1 : Int).toNat (x7_1 : Int).toNat)] (fun _ => True) (fun _ => False) rfl rfl ?aP (fun _ hk => hk.elim) ?aF ?aO ?aB ?aS ?aL ?_; (case aP => exact rfl); (case aB => exact (by repeat (first | (with_reducible first | exact HB.out | apply below_alloc | apply pw_below_drewN | apply below_drew1) | exact HB.out))); (case aF => exact (fun _ _ => trivial)); (case aO => exact (by (with_reducible repeat (first | apply Kd.R_alloc | apply Kd.R_drewN | apply Kd.R_drew)); exact HO_5.out)); (case aS => exact (below_size (by repeat (first | (with_reducible first | exact HB.out | apply below_alloc | apply pw_below_drewN | apply below_drew1) | exact HB.out)))); (case aL => have := LMc8.out; omega); intro v141 w9 ho hb hg hat; rw [← Ny140.out] at ho; have n0_ := Aside0.mk (hb); have n1_ := Aside0.mk (ho); clear HB; clear HO_5; have HB := n0_; have HO142 := n1_; clear n0_ n1_; clear ho hb hg hat))
                go_roundg k1
                case measure => have := HK1.out; omega
                case rel => exact ⟨(y140), (wrap64 (x7_1 + 1)), (wrap64 (x7_1 + 1)), (by first | rfl | (simp; done) | (simp [*]; done) | (simp; rw [Bool.eq_iff_iff]; simp; done) | (rw [Bool.eq_iff_iff]; simp; done)), (by first | rfl | (simp; done) | (simp [*]; done) | (simp; rw [Bool.eq_iff_iff]; simp; done) | (rw [Bool.eq_iff_iff]; simp; done)), H', ⟨by have := HK1.out; omega⟩, ⟨by (with_reducible repeat (first | apply Kd.R_alloc | apply Kd.R_drewN | apply Kd.R_drew)); exact HO142.out⟩, ⟨by repeat (first | (with_reducible first | exact HB.out | apply below_alloc | apply pw_below_drewN | apply below_drew1) | exact HB.out)⟩⟩
              · rw [if_neg c8] at H
                exact absurd H (by simp)
            · rw [if_neg c6] at H
              exact absurd H (by simp)
          · rw [if_neg c5] at H
            exact absurd H (by simp)
        · rw [if_neg c4] at H
          have c4b0 : (x7_1 == (a0.size : Int)) = false := beq_eq_false_iff_ne.mpr c4
          have c4b1 : (x7_1 != (a0.size : Int)) = true := bne_iff_ne.mpr c4
          by_cases c10 : 0 ≤ x7_1
          · rw [if_pos c10] at H
            have c10b0 : decide (0 ≤ x7_1) = true := decide_eq_true c10
            clear c10
            by_cases c11 : x7_1 < (a0.size : Int)
            · rw [if_pos c11] at H
              have c11b0 : decide (x7_1 < (a0.size : Int)) = true := decide_eq_true c11
              clear c11
              by_cases c13 : (bt a0 x7_1) = a1
              · rw [if_pos c13] at H
                have c13b0 : ((bt a0 x7_1) == a1) = true := beq_iff_eq.mpr c13
                have c13b1 : ((bt a0 x7_1) != a1) = false := bne_eq_false_iff_eq.mpr c13
                clear c13
                by_cases c14 : 0 ≤ x6_1
                · rw [if_pos c14] at H
                  have c14b0 := eq_true c14
                  have c14b1 : decide (0 ≤ x6_1) = true := decide_eq_true c14
                  clear c14
                  by_cases c15 : x6_1 ≤ x7_1
                  · rw [if_pos c15] at H
                    have c15b0 := eq_true c15
                    have c15b1 : decide (x6_1 ≤ x7_1) = true := decide_eq_true c15
                    clear c15
                    have c16b0 := eq_true (of_decide_eq_true (by first | (with_reducible assumption) | assumption) : x7_1 ≤ (a0.size : Int))
                    by_cases c17 : x5_1.length < 8796093022208
                    · rw [if_pos c17] at H
                      have LMc17 := Aside0.mk c17
                      clear c17
                      obtain ⟨y143, hy143⟩ : ∃ y_ : List ByteArray, y_ = (x5_1 ++ [a0.extract (x6_1 : Int).toNat (x7_1 : Int).toNat]) := ⟨_, rfl⟩
                      replace H : (bursarref04_pieces.l0 k1 a0 a1 y143 (wrap64 (x7_1 + 1)) (wrap64 (x7_1 + 1))) = some r := by first | (rw [hy143]; with_reducible exact H) | (have H2_ := (Option.bind_some _ _).symm.trans H; rw [hy143]; with_reducible exact H2_) | (have H2_ := (Option.bind_some _ _).symm.trans H; with_reducible exact H2_) | with_reducible exact H | (rw [hy143]; exact H) | exact H
                      have Ny143 := Aside0.mk hy143
                      clear hy143
                      have H' := Aside0.mk H
                      clear H
                      have p12 : 0 ≤ (x7_1 : Int) := of_decide_eq_true (by first | (with_reducible assumption) | assumption)
                      have q12 : x7_1 < (a0.size : Int) := of_decide_eq_true (by first | (with_reducible assumption) | assumption)
                      have hx12 := bt_at a0 x7_1
                      replace p12 := eq_true p12
                      replace q12 := eq_true q12
                      go_wp2_with (first | ((with_reducible refine gate_builtin (b := .append) (xs := #[.tmp 25, .tmp 30]) rfl ?_); at_builtin; refine Kd.R_append Kd.string (w0 := w) w.heap.size rfl (.tmp 25) (.tmp 30) 30 9 (.string ⟨#[]⟩) 16 rfl Tryd.underlying30 info9 rfl (by decide) (by omega) u5 x5_1 (a0.extract (x6_1 : Int).toNat (x7_1 : Int).toNat) [.string (a0.extract (x6_1 : Int).toNat (x7_1 : Int).toNat)] (fun _ => True) (fun _ => False) rfl rfl ?aP (fun _ hk => hk.elim) ?aF ?aO ?aB ?aS ?aL ?_; (case aP => exact rfl); (case aB => exact (by repeat (first | (with_reducible first | exact HB.out | apply below_alloc | apply pw_below_drewN | apply below_drew1) | exact HB.out))); (case aF => exact (fun _ _ => trivial)); (case aO => exact (by (with_reducible repeat (first | apply Kd.R_alloc | apply Kd.R_drewN | apply Kd.R_drew)); exact HO_5.out)); (case aS => exact (below_size (by repeat (first | (with_reducible first | exact HB.out | apply below_alloc | apply pw_below_drewN | apply below_drew1) | exact HB.out)))); (case aL => have := LMc17.out; omega); intro v144 w18 ho hb hg hat; rw [← Ny143.out] at ho; have n0_ := Aside0.mk (hb); have n1_ := Aside0.mk (ho); clear HB; clear HO_5; have HB := n0_; have HO145 := n1_; clear n0_ n1_; clear ho hb hg hat))
                      go_roundg k1
                      case measure => have := HK1.out; omega
                      case rel => exact ⟨(y143), (wrap64 (x7_1 + 1)), (wrap64 (x7_1 + 1)), (by first | rfl | (simp; done) | (simp [*]; done) | (simp; rw [Bool.eq_iff_iff]; simp; done) | (rw [Bool.eq_iff_iff]; simp; done)), (by first | rfl | (simp; done) | (simp [*]; done) | (simp; rw [Bool.eq_iff_iff]; simp; done) | (rw [Bool.eq_iff_iff]; simp; done)), H', ⟨by have := HK1.out; omega⟩, ⟨by (with_reducible repeat (first | apply Kd.R_alloc | apply Kd.R_drewN | apply Kd.R_drew)); exact HO145.out⟩, ⟨by repeat (first | (with_reducible first | exact HB.out | apply below_alloc | apply pw_below_drewN | apply below_drew1) | exact HB.out)⟩⟩
                    · rw [if_neg c17] at H
                      exact absurd H (by simp)
                  · rw [if_neg c15] at H
                    exact absurd H (by simp)
                · rw [if_neg c14] at H
                  exact absurd H (by simp)
              · rw [if_neg c13] at H
                have c13b0 : ((bt a0 x7_1) == a1) = false := beq_eq_false_iff_ne.mpr c13
                have c13b1 : ((bt a0 x7_1) != a1) = true := bne_iff_ne.mpr c13
                have H' := Aside0.mk H
                clear H
                have p12 : 0 ≤ (x7_1 : Int) := of_decide_eq_true (by first | (with_reducible assumption) | assumption)
                have q12 : x7_1 < (a0.size : Int) := of_decide_eq_true (by first | (with_reducible assumption) | assumption)
                have hx12 := bt_at a0 x7_1
                replace p12 := eq_true p12
                replace q12 := eq_true q12
                go_wp2
                go_roundg k1
                case measure => have := HK1.out; omega
                case rel => exact ⟨(x5_1), (x6_1), (wrap64 (x7_1 + 1)), (by first | rfl | (simp; done) | (simp [*]; done) | (simp; rw [Bool.eq_iff_iff]; simp; done) | (rw [Bool.eq_iff_iff]; simp; done)), (by first | rfl | (simp; done) | (simp [*]; done) | (simp; rw [Bool.eq_iff_iff]; simp; done) | (rw [Bool.eq_iff_iff]; simp; done)), H', ⟨by have := HK1.out; omega⟩, ⟨by (with_reducible repeat (first | apply Kd.R_alloc | apply Kd.R_drewN | apply Kd.R_drew)); exact HO_5.out⟩, ⟨by repeat (first | (with_reducible first | exact HB.out | apply below_alloc | apply pw_below_drewN | apply below_drew1) | exact HB.out)⟩⟩
            · rw [if_neg c11] at H
              exact absurd H (by simp)
          · rw [if_neg c10] at H
            exact absurd H (by simp)
      · rw [if_neg c3] at H
        have c3b0 : decide (x7_1 ≤ (a0.size : Int)) = false := decide_eq_false c3
        clear c3
        obtain rfl := Option.some.inj H
        go_wp2
        go_ret
        exact ⟨_, by first | rfl | (simp [errW_none, errW_some] <;> rfl) | (simp [*, errW_none, errW_some] <;> rfl), by (with_reducible repeat (first | apply Kd.R_alloc | apply Kd.R_drewN | apply Kd.R_drew)); exact HO_5.out, by repeat (first | (with_reducible first | exact HB.out | apply below_alloc | apply pw_below_drewN | apply below_drew1) | exact HB.out)⟩
end Go.Proofs.YtphddbijdfmpjaaDoor.Q
namespace Go.Proofs.YtphddbijdfmpjaaDoor.Q
open Go.RowKit Go.Proofs.YtphddbijdfmpjaaDoorW.PrintWords Go.Proofs.YtphddbijdfmpjaaDoorW.PrintLast Go.Proofs.YtphddbijdfmpjaaDoorW.PrintMore
attribute [local go_sem] max2_int min2_int max_two min_two max_three min_three max_four min_four   -- for this text's walks alone
set_option linter.unusedVariables false
set_option linter.unusedSimpArgs false
mutual
def bursarref04_Split.j0 : Nat → List ByteArray → Bool → Option (List ByteArray × Int)
  | 0, _, _ => none
  | k + 1, x4, x29 => if x29 = true then (some (([] : List ByteArray), 41)) else (bursarref04_Split.l0 k x4 1)
def bursarref04_Split.l0 : Nat → List ByteArray → Int → Option (List ByteArray × Int)
  | 0, _, _ => none
  | k + 1, x4, x5 => if x5 < (x4.length : Int) then (if 0 ≤ x5 then ((bursarref04_Name.f k (rdOf ByteArray.empty x4 x5)).bind fun t151 => (if t151 = true then (bursarref04_Split.l0 k x4 (wrap64 (x5 + 1))) else (some (([] : List ByteArray), 41)))) else (none)) else (if 1 ≤ (x4.length : Int) then (some ((x4.drop (1 : Int).toNat), 0)) else (none))
end
def bursarref04_Split.f (k : Nat) (a0 : ByteArray) : Option (List ByteArray × Int) := if a0.toList = ([47] : List UInt8) then (some (([] : List ByteArray), 0)) else ((bursarref04_pieces.f k a0 47).bind fun t146 => (if (a0.size : Int) > 64 then (bursarref04_Split.j0 k t146 true) else (if (t146.length : Int) < 2 then (bursarref04_Split.j0 k t146 true) else (if (t146.length : Int) > 9 then (bursarref04_Split.j0 k t146 true) else (if 0 < (t146.length : Int) then (bursarref04_Split.j0 k t146 ((rdOf ByteArray.empty t146 0).toList != ([] : List UInt8))) else (none))))))
theorem bursarref04_Split.mono_l : ∀ k, (∀ y0 y1, LeO (bursarref04_Split.j0 k y0 y1) (bursarref04_Split.j0 (k + 1) y0 y1)) ∧ (∀ y0 y1, LeO (bursarref04_Split.l0 k y0 y1) (bursarref04_Split.l0 (k + 1) y0 y1))
  | 0 => ⟨fun _ _ r h => by simp [bursarref04_Split.j0] at h, fun _ _ r h => by simp [bursarref04_Split.l0] at h⟩
  | k + 1 => by
    obtain ⟨ih0, ih1⟩ := bursarref04_Split.mono_l k
    refine ⟨?_, ?_⟩
    · intro y0 y1
      unfold bursarref04_Split.j0
      repeat' first
      | (with_reducible exact ih0 _ _)
      | (with_reducible exact ih1 _ _)
      | (with_reducible exact bursarref04_Name.mono _ _)
      | (with_reducible exact bursarref04_pieces.mono _ _ _)
      | (with_reducible exact LeO.refl _)
      | (with_reducible exact LeO.none _)
      | (with_reducible refine LeO.ite ?_ ?_)
      | (with_reducible refine LeO.bind ?_ (fun _ => ?_))
      | exact ih0 _ _
      | exact ih1 _ _
      | exact bursarref04_Name.mono _ _
      | exact bursarref04_pieces.mono _ _ _
      | exact LeO.none _
      | refine LeO.ite ?_ ?_
      | refine LeO.bind ?_ (fun _ => ?_)
    · intro y0 y1
      unfold bursarref04_Split.l0
      repeat' first
      | (with_reducible exact ih0 _ _)
      | (with_reducible exact ih1 _ _)
      | (with_reducible exact bursarref04_Name.mono _ _)
      | (with_reducible exact bursarref04_pieces.mono _ _ _)
      | (with_reducible exact LeO.refl _)
      | (with_reducible exact LeO.none _)
      | (with_reducible refine LeO.ite ?_ ?_)
      | (with_reducible refine LeO.bind ?_ (fun _ => ?_))
      | exact ih0 _ _
      | exact ih1 _ _
      | exact bursarref04_Name.mono _ _
      | exact bursarref04_pieces.mono _ _ _
      | exact LeO.none _
      | refine LeO.ite ?_ ?_
      | refine LeO.bind ?_ (fun _ => ?_)
theorem bursarref04_Split.mono : ∀ a0 k, LeO (bursarref04_Split.f k a0) (bursarref04_Split.f (k + 1) a0) := by
  intro a0 k
  obtain ⟨ih0, ih1⟩ := bursarref04_Split.mono_l k
  unfold bursarref04_Split.f
  repeat' first
      | (with_reducible exact ih0 _ _)
      | (with_reducible exact ih1 _ _)
      | (with_reducible exact bursarref04_Name.mono _ _)
      | (with_reducible exact bursarref04_pieces.mono _ _ _)
      | (with_reducible exact LeO.refl _)
      | (with_reducible exact LeO.none _)
      | (with_reducible refine LeO.ite ?_ ?_)
      | (with_reducible refine LeO.bind ?_ (fun _ => ?_))
      | exact ih0 _ _
      | exact ih1 _ _
      | exact bursarref04_Name.mono _ _
      | exact bursarref04_pieces.mono _ _ _
      | exact LeO.none _
      | refine LeO.ite ?_ ?_
      | refine LeO.bind ?_ (fun _ => ?_)
set_option maxHeartbeats 8000000 in
set_option maxRecDepth 100000 in
theorem bursarref04_Split.calls (k : Nat) (a0 : ByteArray) (r1 : List ByteArray) (r2 : Int) (w : World) (h : bursarref04_Split.f k a0 = some (r1, r2)) :
    Calls Tryd.prog 73 #[.string a0] w fun e w' => ∃ v0_ : Value, e = .returned (.tuple #[v0_, .int .i64 r2]) ∧ Kd.Q Kd.string 9 w' w.heap.size (fun _ => True) v0_ r1 ∧ Below w.heap.size w w' := by
  have HB := Aside0.mk (Below.refl w.heap.size w)
  have H : (if a0.toList = ([47] : List UInt8) then (some (([] : List ByteArray), 0)) else ((bursarref04_pieces.f k a0 47).bind fun t146 => (if (a0.size : Int) > 64 then (bursarref04_Split.j0 k t146 true) else (if (t146.length : Int) < 2 then (bursarref04_Split.j0 k t146 true) else (if (t146.length : Int) > 9 then (bursarref04_Split.j0 k t146 true) else (if 0 < (t146.length : Int) then (bursarref04_Split.j0 k t146 ((rdOf ByteArray.empty t146 0).toList != ([] : List UInt8))) else (none))))))) = some (r1, r2) := h
  clear h
  by_cases c2 : a0.toList = ([47] : List UInt8)
  · rw [if_pos c2] at H
    have c2b0 : (a0.toList == ([47] : List UInt8)) = true := beq_iff_eq.mpr c2
    have c2b1 : (a0.toList != ([47] : List UInt8)) = false := bne_eq_false_iff_eq.mpr c2
    clear c2
    simp only [Option.some.injEq, Prod.mk.injEq] at H
    obtain ⟨rfl, rfl⟩ := H
    go_enter Tryd.func73, Tryd.ntmps73
    go_wp2
    go_ret2
    exact ⟨_, by first | rfl | (simp [errW_none, errW_some] <;> rfl) | (simp [*, errW_none, errW_some] <;> rfl), Kd.Q_of_R (by first | exact Kd.R_nil _ _ _ _ _ | exact Kd.N_nil _ _ _ _ _ | exact Kd.V_nil _ _ _ _ _ | exact Kd.Q_nil _ _ _ _ _ | exact Kd.S_nil _ _ _ _ _), by repeat (first | (with_reducible first | exact HB.out | apply below_alloc | apply pw_below_drewN | apply below_drew1) | exact HB.out)⟩
  · rw [if_neg c2] at H
    have c2b0 : (a0.toList == ([47] : List UInt8)) = false := beq_eq_false_iff_ne.mpr c2
    have c2b1 : (a0.toList != ([47] : List UInt8)) = true := bne_iff_ne.mpr c2
    replace H := Option.bind_eq_some_iff.mp H
    obtain ⟨t146, A30, H⟩ := H
    replace H : (if (a0.size : Int) > 64 then (bursarref04_Split.j0 k t146 true) else (if (t146.length : Int) < 2 then (bursarref04_Split.j0 k t146 true) else (if (t146.length : Int) > 9 then (bursarref04_Split.j0 k t146 true) else (if 0 < (t146.length : Int) then (bursarref04_Split.j0 k t146 ((rdOf ByteArray.empty t146 0).toList != ([] : List UInt8))) else (none))))) = some (r1, r2) := H
    have A3 := Aside0.mk A30
    clear A30
    have HC4 := Aside0.mk H
    clear H
    go_enter Tryd.func73, Tryd.ntmps73
    go_upto_region 4 with (first | ((with_reducible refine gate_callee (f := 93) rfl ?_); refine goesL_ (some 10) rfl rfl Tryd.func93 (by kernel_rfl) rfl #[.string a0, .int .u8 47] rfl (by (try simp only [List.map_toArray, List.map_cons, List.map_nil]); first | done | rfl | (simp only [List.length_drop, List.length_take]; rfl)) ?_; (with_reducible refine (bursarref04_pieces.calls k a0 47 t146 _ A3.out).mono ?_); rintro e w5 ⟨v147, rfl, ho0, hb⟩; refine ⟨_, rfl, ?_⟩; have n0_ := Aside0.mk (Kd.R_lower ho0 (below_size (by repeat (first | (with_reducible first | exact HB.out | apply below_alloc | apply pw_below_drewN | apply below_drew1) | exact HB.out)))); have n1_ := Aside0.mk (below_step (by repeat (first | (with_reducible first | exact HB.out | apply below_alloc | apply pw_below_drewN | apply below_drew1) | exact HB.out)) hb); clear HB; have HO148 := n0_; have HB := n1_; clear n0_ n1_; (try clear hb); (try clear hb2); (try clear hk); (try clear hi); (try clear ho0)))
    (try simp only [Act.put, List.setIfInBounds_toArray, List.set_cons_zero, List.set_cons_succ])
    go_cut [29] (fun v29 wc => ∃ (kq : Nat) (x29_3 : Bool), v29 = .bool x29_3 ∧ Aside0 (bursarref04_Split.j0 kq t146 x29_3 = some (r1, r2)) ∧ Aside0 (kq ≤ k) ∧ Aside0 (Kd.R Kd.string 9 wc w.heap.size (fun _ => True) v147 t146) ∧ Aside0 (Below w.heap.size w wc))
    case first =>
      have H := HC4.out
      clear HC4
      by_cases c6 : (a0.size : Int) > 64
      · rw [if_pos c6] at H
        have c6b0 : decide (64 < (a0.size : Int)) = true := decide_eq_true c6
        have c6b1 : decide (64 < a0.size) = true := decide_eq_true (by omega)
        clear c6
        (first | rw [c6b0] | (simp only [i64_w, i32_w]; rw [c6b0]) | skip)
        have H' := Aside0.mk H
        clear H
        go_wp2
        go_meet
        case rel => exact ⟨_, (true), (by first | rfl | (simp; done) | (simp [*]; done) | (simp; rw [Bool.eq_iff_iff]; simp; done) | (rw [Bool.eq_iff_iff]; simp; done)), H', ⟨by first | omega | exact Nat.le_refl _⟩, ⟨by (with_reducible repeat (first | apply Kd.R_alloc | apply Kd.R_drewN | apply Kd.R_drew)); exact HO148.out⟩, ⟨by repeat (first | (with_reducible first | exact HB.out | apply below_alloc | apply pw_below_drewN | apply below_drew1) | exact HB.out)⟩⟩
      · rw [if_neg c6] at H
        have c6b0 : decide (64 < (a0.size : Int)) = false := decide_eq_false c6
        have c6b1 : decide (64 < a0.size) = false := decide_eq_false (by omega)
        clear c6
        (first | rw [c6b0] | (simp only [i64_w, i32_w]; rw [c6b0]) | skip)
        by_cases c7 : (t146.length : Int) < 2
        · rw [if_pos c7] at H
          have c7b0 : decide ((t146.length : Int) < 2) = true := decide_eq_true c7
          have c7b1 : decide (t146.length < 2) = true := decide_eq_true (by omega)
          clear c7
          have H' := Aside0.mk H
          clear H
          obtain ⟨Ao8, co8, eo8⟩ := Kd.R_slice HO148.out
          subst eo8
          go_wp2
          go_meet
          case rel => exact ⟨_, (true), (by first | rfl | (simp; done) | (simp [*]; done) | (simp; rw [Bool.eq_iff_iff]; simp; done) | (rw [Bool.eq_iff_iff]; simp; done)), H', ⟨by first | omega | exact Nat.le_refl _⟩, ⟨by (with_reducible repeat (first | apply Kd.R_alloc | apply Kd.R_drewN | apply Kd.R_drew)); exact HO148.out⟩, ⟨by repeat (first | (with_reducible first | exact HB.out | apply below_alloc | apply pw_below_drewN | apply below_drew1) | exact HB.out)⟩⟩
        · rw [if_neg c7] at H
          have c7b0 : decide ((t146.length : Int) < 2) = false := decide_eq_false c7
          have c7b1 : decide (t146.length < 2) = false := decide_eq_false (by omega)
          clear c7
          by_cases c9 : (t146.length : Int) > 9
          · rw [if_pos c9] at H
            have c9b0 : decide (9 < (t146.length : Int)) = true := decide_eq_true c9
            have c9b1 : decide (9 < t146.length) = true := decide_eq_true (by omega)
            clear c9
            have H' := Aside0.mk H
            clear H
            obtain ⟨Ao10, co10, eo10⟩ := Kd.R_slice HO148.out
            subst eo10
            go_wp2
            go_meet
            case rel => exact ⟨_, (true), (by first | rfl | (simp; done) | (simp [*]; done) | (simp; rw [Bool.eq_iff_iff]; simp; done) | (rw [Bool.eq_iff_iff]; simp; done)), H', ⟨by first | omega | exact Nat.le_refl _⟩, ⟨by (with_reducible repeat (first | apply Kd.R_alloc | apply Kd.R_drewN | apply Kd.R_drew)); exact HO148.out⟩, ⟨by repeat (first | (with_reducible first | exact HB.out | apply below_alloc | apply pw_below_drewN | apply below_drew1) | exact HB.out)⟩⟩
          · rw [if_neg c9] at H
            have c9b0 : decide (9 < (t146.length : Int)) = false := decide_eq_false c9
            have c9b1 : decide (9 < t146.length) = false := decide_eq_false (by omega)
            clear c9
            by_cases c11 : 0 < (t146.length : Int)
            · rw [if_pos c11] at H
              have c11b0 : decide (0 < (t146.length : Int)) = true := decide_eq_true c11
              have c11b1 : decide (0 < t146.length) = true := decide_eq_true (by omega)
              clear c11
              have H' := Aside0.mk H
              clear H
              obtain ⟨Ao12, co12, eo12⟩ := Kd.R_slice HO148.out
              subst eo12
              have p149 : 0 ≤ (0 : Int) := (by omega)
              have q149 : 0 < (t146.length : Int) := of_decide_eq_true (by first | (with_reducible assumption) | assumption)
              obtain ⟨ad149, e149, hx149_0⟩ := Kd.at_string (Kd.R_reads' HO148.out).2.2 0 p149 q149
              cases e149
              have qi149 : (0 < t146.length) = True := eq_true (by omega)
              (try rw [show ((0 : Int)).toNat = 0 from rfl] at hx149_0)
              (try rw [Addr.add_zero'] at hx149_0)
              replace p149 := eq_true p149
              replace q149 := eq_true q149
              go_wp2
              go_meet
              case rel => exact ⟨_, (((rdOf ByteArray.empty t146 0).toList != ([] : List UInt8))), (by first | rfl | (simp; done) | (simp [*]; done) | (simp; rw [Bool.eq_iff_iff]; simp; done) | (rw [Bool.eq_iff_iff]; simp; done)), H', ⟨by first | omega | exact Nat.le_refl _⟩, ⟨by (with_reducible repeat (first | apply Kd.R_alloc | apply Kd.R_drewN | apply Kd.R_drew)); exact HO148.out⟩, ⟨by repeat (first | (with_reducible first | exact HB.out | apply below_alloc | apply pw_below_drewN | apply below_drew1) | exact HB.out)⟩⟩
            · rw [if_neg c11] at H
              exact absurd H (by simp)
    case rest =>
      clear HC4
      try clear c1
      try clear p1
      try clear q1
      try clear hx1
      try clear qi1
      try clear c2
      try clear c2b0
      try clear c2b1
      try clear p2
      try clear c6
      try clear c6b0
      try clear c6b1
      try clear c7
      try clear c7b0
      try clear c7b1
      try clear c9
      try clear c9b0
      try clear c9b1
      try clear c11
      try clear c11b0
      try clear c11b1
      try clear hx149_0
      try clear p149
      try clear q149
      obtain ⟨kq, x29_3, rfl, HA, HJ3, HO_4, HB⟩ := hcut
      cases kq with
      | zero => exact absurd HA.out (by simp [bursarref04_Split.j0])
      | succ kj3 =>
        have H := HA.out
        clear HA
        simp only [bursarref04_Split.j0] at H
        by_cases c13 : x29_3 = true
        · subst c13
          have H1 : (some (([] : List ByteArray), 41)) = some (r1, r2) := by rw [if_pos rfl] at H; exact H
          clear H
          have H := H1
          clear H1
          simp only [Option.some.injEq, Prod.mk.injEq] at H
          obtain ⟨rfl, rfl⟩ := H
          go_wp2
          go_ret2
          exact ⟨_, by first | rfl | (simp [errW_none, errW_some] <;> rfl) | (simp [*, errW_none, errW_some] <;> rfl), Kd.Q_of_R (by first | exact Kd.R_nil _ _ _ _ _ | exact Kd.N_nil _ _ _ _ _ | exact Kd.V_nil _ _ _ _ _ | exact Kd.Q_nil _ _ _ _ _ | exact Kd.S_nil _ _ _ _ _), by repeat (first | (with_reducible first | exact HB.out | apply below_alloc | apply pw_below_drewN | apply below_drew1) | exact HB.out)⟩
        · replace c13 := Bool.eq_false_iff.mpr c13
          subst c13
          have H1 : (bursarref04_Split.l0 kj3 t146 1) = some (r1, r2) := by rw [if_neg (show ¬ (false = true) by decide)] at H; exact H
          clear H
          have H := H1
          clear H1
          have H' := Aside0.mk H
          clear H
          go_wp2
          go_loopg [5] kj3 (fun kq v5 w' => ∃ (x5_2 : Int), v5 = .int .i64 x5_2 ∧ Aside0 (bursarref04_Split.l0 kq t146 x5_2 = some (r1, r2)) ∧ Aside0 (kq ≤ kj3) ∧ Aside0 (Kd.R Kd.string 9 w' w.heap.size (fun _ => True) v147 t146) ∧ Aside0 (Below w.heap.size w w'))
          case atStart => exact ⟨(1), (by first | rfl | (simp; done) | (simp [*]; done) | (simp; rw [Bool.eq_iff_iff]; simp; done) | (rw [Bool.eq_iff_iff]; simp; done)), H', ⟨Nat.le_refl _⟩, ⟨by (with_reducible repeat (first | apply Kd.R_alloc | apply Kd.R_drewN | apply Kd.R_drew)); exact HO_4.out⟩, ⟨by repeat (first | (with_reducible first | exact HB.out | apply below_alloc | apply pw_below_drewN | apply below_drew1) | exact HB.out)⟩⟩
          case round =>
            clear H'
            try clear c1
            try clear p1
            try clear q1
            try clear hx1
            try clear qi1
            try clear c2
            try clear c2b0
            try clear c2b1
            try clear p2
            try clear c6
            try clear c6b0
            try clear c6b1
            try clear c7
            try clear c7b0
            try clear c7b1
            try clear c9
            try clear c9b0
            try clear c9b1
            try clear c11
            try clear c11b0
            try clear c11b1
            try clear c13
            try clear hx149_0
            try clear p1
            try clear p149
            try clear p2
            try clear q1
            try clear q149
            obtain ⟨x5_2, rfl, HA, HK2, HO_4, HB⟩ := hrel
            cases gk with
            | zero => exact absurd HA.out (by simp [bursarref04_Split.l0])
            | succ k2 =>
              have H := HA.out
              clear HA
              simp only [bursarref04_Split.l0] at H
              by_cases c14 : x5_2 < (t146.length : Int)
              · rw [if_pos c14] at H
                have c14b0 : decide (x5_2 < (t146.length : Int)) = true := decide_eq_true c14
                clear c14
                by_cases c15 : 0 ≤ x5_2
                · rw [if_pos c15] at H
                  have c15b0 : decide (0 ≤ x5_2) = true := decide_eq_true c15
                  clear c15
                  replace H := Option.bind_eq_some_iff.mp H
                  obtain ⟨t151, A160, H⟩ := H
                  replace H : (if t151 = true then (bursarref04_Split.l0 k2 t146 (wrap64 (x5_2 + 1))) else (some (([] : List ByteArray), 41))) = some (r1, r2) := H
                  have A16 := Aside0.mk A160
                  clear A160
                  by_cases c17 : t151 = true
                  · subst c17
                    have H1 : (bursarref04_Split.l0 k2 t146 (wrap64 (x5_2 + 1))) = some (r1, r2) := by rw [if_pos rfl] at H; exact H
                    clear H
                    have H := H1
                    clear H1
                    have H' := Aside0.mk H
                    clear H
                    obtain ⟨Ao18, co18, eo18⟩ := Kd.R_slice HO_4.out
                    subst eo18
                    have p150 : 0 ≤ (x5_2 : Int) := of_decide_eq_true (by first | (with_reducible assumption) | assumption)
                    have q150 : x5_2 < (t146.length : Int) := of_decide_eq_true (by first | (with_reducible assumption) | assumption)
                    obtain ⟨ad150, e150, hx150_0⟩ := Kd.at_string (Kd.R_reads' HO_4.out).2.2 x5_2 p150 q150
                    cases e150
                    replace p150 := eq_true p150
                    replace q150 := eq_true q150
                    go_wp2_with (first | ((with_reducible refine gate_callee (f := 72) rfl ?_); refine goesL_ (some 40) rfl rfl Tryd.func72 (by kernel_rfl) rfl #[.string (rdOf ByteArray.empty t146 x5_2)] rfl (by (try simp only [List.map_toArray, List.map_cons, List.map_nil]); first | done | rfl | (simp only [List.length_drop, List.length_take]; rfl)) ?_; (with_reducible refine (bursarref04_Name.calls k2 (rdOf ByteArray.empty t146 x5_2) true _ A16.out).mono ?_); rintro e w' ⟨rfl, ⟨nd, rfl⟩⟩; refine ⟨_, rfl, ?_⟩))
                    go_roundg k2
                    case measure => have := HJ3.out; have := HK2.out; omega
                    case rel => exact ⟨(wrap64 (x5_2 + 1)), (by first | rfl | (simp; done) | (simp [*]; done) | (simp; rw [Bool.eq_iff_iff]; simp; done) | (rw [Bool.eq_iff_iff]; simp; done)), H', ⟨by have := HJ3.out; have := HK2.out; omega⟩, ⟨by (with_reducible repeat (first | apply Kd.R_alloc | apply Kd.R_drewN | apply Kd.R_drew)); exact HO_4.out⟩, ⟨by repeat (first | (with_reducible first | exact HB.out | apply below_alloc | apply pw_below_drewN | apply below_drew1) | exact HB.out)⟩⟩
                  · replace c17 := Bool.eq_false_iff.mpr c17
                    subst c17
                    have H1 : (some (([] : List ByteArray), 41)) = some (r1, r2) := by rw [if_neg (show ¬ (false = true) by decide)] at H; exact H
                    clear H
                    have H := H1
                    clear H1
                    simp only [Option.some.injEq, Prod.mk.injEq] at H
                    obtain ⟨rfl, rfl⟩ := H
                    obtain ⟨Ao19, co19, eo19⟩ := Kd.R_slice HO_4.out
                    subst eo19
                    have p150 : 0 ≤ (x5_2 : Int) := of_decide_eq_true (by first | (with_reducible assumption) | assumption)
                    have q150 : x5_2 < (t146.length : Int) := of_decide_eq_true (by first | (with_reducible assumption) | assumption)
                    obtain ⟨ad150, e150, hx150_0⟩ := Kd.at_string (Kd.R_reads' HO_4.out).2.2 x5_2 p150 q150
                    cases e150
                    replace p150 := eq_true p150
                    replace q150 := eq_true q150
                    go_wp2_with (first | ((with_reducible refine gate_callee (f := 72) rfl ?_); refine goesL_ (some 40) rfl rfl Tryd.func72 (by kernel_rfl) rfl #[.string (rdOf ByteArray.empty t146 x5_2)] rfl (by (try simp only [List.map_toArray, List.map_cons, List.map_nil]); first | done | rfl | (simp only [List.length_drop, List.length_take]; rfl)) ?_; (with_reducible refine (bursarref04_Name.calls k2 (rdOf ByteArray.empty t146 x5_2) false _ A16.out).mono ?_); rintro e w' ⟨rfl, ⟨nd, rfl⟩⟩; refine ⟨_, rfl, ?_⟩))
                    go_ret2
                    exact ⟨_, by first | rfl | (simp [errW_none, errW_some] <;> rfl) | (simp [*, errW_none, errW_some] <;> rfl), Kd.Q_of_R (by first | exact Kd.R_nil _ _ _ _ _ | exact Kd.N_nil _ _ _ _ _ | exact Kd.V_nil _ _ _ _ _ | exact Kd.Q_nil _ _ _ _ _ | exact Kd.S_nil _ _ _ _ _), by repeat (first | (with_reducible first | exact HB.out | apply below_alloc | apply pw_below_drewN | apply below_drew1) | exact HB.out)⟩
                · rw [if_neg c15] at H
                  exact absurd H (by simp)
              · rw [if_neg c14] at H
                have c14b0 : decide (x5_2 < (t146.length : Int)) = false := decide_eq_false c14
                clear c14
                by_cases c20 : 1 ≤ (t146.length : Int)
                · rw [if_pos c20] at H
                  have c20b0 := eq_true c20
                  have c20b1 : decide (1 ≤ (t146.length : Int)) = true := decide_eq_true c20
                  clear c20
                  obtain ⟨y152, hy152⟩ : ∃ y_ : List ByteArray, y_ = (t146.drop (1 : Int).toNat) := ⟨_, rfl⟩
                  replace H : (some (y152, 0)) = some (r1, r2) := by first | (rw [hy152]; with_reducible exact H) | (have H2_ := (Option.bind_some _ _).symm.trans H; rw [hy152]; with_reducible exact H2_) | (have H2_ := (Option.bind_some _ _).symm.trans H; with_reducible exact H2_) | with_reducible exact H | (rw [hy152]; exact H) | exact H
                  have Ny152 := Aside0.mk hy152
                  clear hy152
                  simp only [Option.some.injEq, Prod.mk.injEq] at H
                  obtain ⟨rfl, rfl⟩ := H
                  obtain ⟨Ao21, co21, eo21⟩ := Kd.R_slice HO_4.out
                  subst eo21
                  have q22 : (1 : Int) ≤ ((t146.length : Int) : Int) := of_decide_eq_true (by first | (with_reducible assumption) | assumption)
                  obtain ⟨i022, hi022, _, hsz22, _⟩ := info_parts info9
                  have hcut22 := cut_from (P := Tryd.prog) 30 9 .i64 Tryd.underlying30 hi022 1 hsz22 Ao21 t146.length co21 1 (by omega) q22
                  have hr22 := Kd.Q_drop (k := (1 : Int).toNat) (Kd.Q_of_R HO_4.out) (by omega)
                  obtain ⟨A22, hA22⟩ : ∃ A1, A1 = (if co21 = (1 : Int).toNat then Ao21 else (Ao21 : Option Addr).map (·.add ((1 : Int).toNat * 1))) := ⟨_, rfl⟩
                  obtain ⟨c22, hc22⟩ : ∃ c1, c1 = co21 - (1 : Int).toNat := ⟨_, rfl⟩
                  have hy22 : y152.length = t146.length - (1 : Int).toNat := (by rw [Ny152.out, List.length_drop])
                  rw [← Ny152.out] at hr22
                  rw [← hy22, ← hA22, ← hc22] at hcut22
                  replace hr22 : Kd.Q Kd.string 9 wr w.heap.size (fun _ => True) (.slice A22 y152.length c22) y152 := (by rw [hA22, hc22, hy22]; exact hr22)
                  have HE22 : Aside0 ((Value.slice A22 y152.length c22).ownBlock = (.slice Ao21 t146.length co21 : Value).ownBlock) := ⟨by rw [hA22]; split <;> (cases (Ao21 : Option Addr) <;> rfl)⟩
                  clear hy22 hi022 hsz22 HO_4 hA22 hc22
                  have HO154 := Aside0.mk hr22
                  clear hr22
                  replace q22 := eq_true q22
                  go_wp2
                  go_ret2
                  exact ⟨_, by first | rfl | (simp [errW_none, errW_some] <;> rfl) | (simp [*, errW_none, errW_some] <;> rfl), by (with_reducible repeat (first | apply Kd.Q_alloc | apply Kd.Q_drewN | apply Kd.Q_drew)); exact HO154.out, by repeat (first | (with_reducible first | exact HB.out | apply below_alloc | apply pw_below_drewN | apply below_drew1) | exact HB.out)⟩
                · rw [if_neg c20] at H
                  exact absurd H (by simp)
end Go.Proofs.YtphddbijdfmpjaaDoor.Q
namespace Go.Proofs.YtphddbijdfmpjaaDoor.Q
open Go.RowKit Go.Proofs.YtphddbijdfmpjaaDoorW.PrintWords Go.Proofs.YtphddbijdfmpjaaDoorW.PrintLast Go.Proofs.YtphddbijdfmpjaaDoor.Pl
set_option linter.unusedVariables false
set_option linter.unusedSimpArgs false
theorem nstep (k : Nat) (s : ByteArray) (i : Nat) (h : i < s.size) : bursarref04_Name.l0 (k + 1) s (i : Int) = if okByte (s[i]'h) = true then bursarref04_Name.l0 k s (wrap64 ((i : Int) + 1)) else some false := by
  have hb := bt_get s i h
  have hok := ok_iff (s[i]'h)
  rw [plB_iff, hb] at hok
  simp only [bursarref04_Name.l0]
  rw [if_pos (by omega), if_pos (by omega)]
  by_cases ho : okByte (s[i]'h) = true
  · rw [if_pos ho]
    have := hok.1 ho
    repeat' split
    all_goals first | rfl | (exfalso; omega)
  · rw [if_neg ho]
    have hn := fun h => ho (hok.2 h)
    repeat' split
    all_goals first | rfl | (exfalso; exact hn (by omega))
theorem nloop (s : ByteArray) (hs : s.size ≤ 1048576) (d : Nat) : ∀ i : Nat, i + d = s.size → Ev (fun k => bursarref04_Name.l0 k s (i : Int)) ((s.data.toList.drop i).all okByte) := by
  induction d with
  | zero =>
    intro i hi
    refine Ev.step (f := fun _ => some true) (fun k => ?_) ?_
    · simp only [bursarref04_Name.l0]; rw [if_neg (by omega)]
    · rw [List.drop_of_length_le (by rw [size_list]; omega)]; exact Ev.now true
  | succ d ih =>
    intro i hi
    have hlt : i < s.size := by omega
    have hl : i < s.data.toList.length := by rw [size_list]; exact hlt
    have hd : s.data.toList.drop i = s[i]'hlt :: s.data.toList.drop (i + 1) := List.drop_eq_getElem_cons hl
    rw [hd, List.all_cons]
    cases ho : okByte (s[i]'hlt) with
    | true =>
      rw [Bool.true_and]
      refine Ev.step (fun k => ?_) (ih (i + 1) (by omega))
      rw [nstep k s i hlt, if_pos ho, w64 i (by omega)]
    | false =>
      refine Ev.step (f := fun _ => some false) (fun k => ?_) (Ev.now false)
      rw [nstep k s i hlt, if_neg (by rw [ho]; decide)]
theorem name_ev (s : ByteArray) : Ev (fun k => bursarref04_Name.f k s) (nameB s) := by
  have hfalse : Ev (fun k => bursarref04_Name.j0 k s true) false := Ev.step (f := fun _ => some false) (fun k => by simp [bursarref04_Name.j0]) (Ev.now false)
  by_cases h1 : s.size < 1
  · rw [nameB_false (.inl h1)]
    refine Ev.congr (f := fun k => bursarref04_Name.j0 k s true) (fun k => ?_) hfalse
    unfold bursarref04_Name.f; rw [if_pos (by omega)]
  by_cases h2 : 32 < s.size
  · rw [nameB_false (.inr (.inl h2))]
    refine Ev.congr (f := fun k => bursarref04_Name.j0 k s true) (fun k => ?_) hfalse
    unfold bursarref04_Name.f; rw [if_neg (by omega), if_pos (by omega)]
  by_cases h3 : bt s 0 = 45
  · rw [nameB_false (.inr (.inr (.inl h3)))]
    refine Ev.congr (f := fun k => bursarref04_Name.j0 k s true) (fun k => ?_) hfalse
    unfold bursarref04_Name.f; rw [if_neg (by omega), if_neg (by omega), if_pos (by omega), if_pos h3]
  have hw : wrap64 ((s.size : Int) - 1) = (s.size : Int) - 1 := by unfold wrap64; omega
  by_cases h4 : bt s ((s.size : Int) - 1) = 45
  · rw [nameB_false (.inr (.inr (.inr (.inl h4))))]
    refine Ev.congr (f := fun k => bursarref04_Name.j0 k s true) (fun k => ?_) hfalse
    unfold bursarref04_Name.f
    rw [if_neg (by omega), if_neg (by omega), if_pos (by omega), if_neg h3, hw, if_pos (by omega), if_pos (by omega), h4]; rfl
  have hv : nameB s = s.data.toList.all okByte := by
    cases h : s.data.toList.all okByte with
    | true => exact nameB_true (by omega) (by omega) h3 h4 h
    | false => exact nameB_false (.inr (.inr (.inr (.inr h))))
  rw [hv]
  refine Ev.congr (f := fun k => bursarref04_Name.j0 k s false) (fun k => ?_) ?_
  · unfold bursarref04_Name.f
    have e : (bt s ((s.size : Int) - 1) == 45) = false := by rw [beq_eq_false_iff_ne]; exact h4
    rw [if_neg (by omega), if_neg (by omega), if_pos (by omega), if_neg h3, hw, if_pos (by omega), if_pos (by omega), e]
  · refine Ev.step (f := fun k => bursarref04_Name.l0 k s 0) (fun k => by simp [bursarref04_Name.j0]) ?_
    exact nloop s (by omega) s.size 0 (by omega)
theorem ploop (s : ByteArray) (c : UInt8) (hs : s.size ≤ 1048576) (d : Nat) : ∀ (i f : Nat) (acc : List ByteArray), i + d = s.size → f ≤ i → acc.length ≤ i →
    Ev (fun k => bursarref04_pieces.l0 k s (c.toNat : Int) acc (f : Int) (i : Int)) (acc ++ (rest c s f i).map toB) := by
  induction d with
  | zero =>
    intro i f acc hi hf ha
    refine Ev.step (f := fun k => bursarref04_pieces.l0 k s (c.toNat : Int) (acc ++ [s.extract f i]) (((i + 1 : Nat)) : Int) (((i + 1 : Nat)) : Int)) (fun k => ?_) ?_
    · simp only [bursarref04_pieces.l0]
      rw [if_pos (by omega), if_pos (by omega), if_pos (by omega), if_pos (by omega), if_pos (by omega), w64 i (by omega), Int.toNat_natCast, Int.toNat_natCast]
    · refine Ev.step (f := fun _ => some (acc ++ [s.extract f i])) (fun k => ?_) ?_
      · simp only [bursarref04_pieces.l0]; rw [if_neg (by omega)]
      · have e : rest c s f i = [(s.data.toList.take i).drop f] := by
          unfold rest
          rw [List.drop_of_length_le (by rw [size_list]; omega)]
          simp [pcs]
        rw [e, List.map_cons, List.map_nil, ← ext_list, toB_of]
        exact Ev.now _
  | succ d ih =>
    intro i f acc hi hf ha
    have hlt : i < s.size := by omega
    have hb := bt_get s i hlt
    by_cases hc : s[i]'hlt = c
    · have e : rest c s f i = ((s.data.toList.take i).drop f) :: rest c s (i + 1) (i + 1) := by
        unfold rest
        rw [drop_cons s i hlt, hc, pcs_hit]
        cases hp : pcs c (s.data.toList.drop (i + 1)) with
        | nil => exact absurd hp (pcs_ne _ _)
        | cons p r => simp [hp]
      refine Ev.step (f := fun k => bursarref04_pieces.l0 k s (c.toNat : Int) (acc ++ [s.extract f i]) (((i + 1 : Nat)) : Int) (((i + 1 : Nat)) : Int)) (fun k => ?_) ?_
      · simp only [bursarref04_pieces.l0]
        rw [if_pos (by omega), if_neg (by omega), if_pos (by omega), if_pos (by omega), if_pos (by rw [← hb, hc]), if_pos (by omega), if_pos (by omega), if_pos (by omega), w64 i (by omega), Int.toNat_natCast, Int.toNat_natCast]
      · rw [e, List.map_cons, ← ext_list, toB_of]
        have := ih (i + 1) (i + 1) (acc ++ [s.extract f i]) (by omega) (by omega) (by simp; omega)
        simpa using this
    · have e : rest c s f i = rest c s f (i + 1) := by
        obtain ⟨p, r, h1, h2⟩ := pcs_cons c (s[i]'hlt) (s.data.toList.drop (i + 1)) hc
        unfold rest
        rw [drop_cons s i hlt, h2, h1, take_drop_succ s f i hf hlt]
        simp
      rw [e]
      refine Ev.step (fun k => ?_) (ih (i + 1) f acc (by omega) (by omega) (by omega))
      have hne : ¬ bt s (i : Int) = (c.toNat : Int) := fun h => hc (by rw [← hb] at h; exact UInt8.toNat_inj.1 (by omega))
      simp only [bursarref04_pieces.l0]
      rw [if_pos (by omega), if_neg (by omega), if_pos (by omega), if_pos (by omega), if_neg hne, w64 i (by omega)]
theorem pieces_ev (s : ByteArray) (c : UInt8) (hs : s.size ≤ 1048576) : Ev (fun k => bursarref04_pieces.f k s (c.toNat : Int)) ((pcs c s.data.toList).map toB) := by
  have h := ploop s c hs s.size 0 0 [] (by omega) (by omega) (by simp)
  have e : rest c s 0 0 = pcs c s.data.toList := by
    unfold rest
    simp only [List.drop_zero, List.take_zero]
    cases hp : pcs c s.data.toList with
    | nil => exact absurd hp (pcs_ne _ _)
    | cons p r => simp
  rw [e, List.nil_append] at h
  exact h
theorem rsloop (l : List (List UInt8)) (hl : l.length ≤ 2000000) (h1 : 1 ≤ l.length) (d : Nat) : ∀ i : Nat, i + d = l.length → 1 ≤ i →
    Ev (fun k => bursarref04_Split.l0 k (l.map toB) (i : Int)) (if (l.drop i).all nameL = true then ((l.drop 1).map toB, 0) else ([], 41)) := by
  induction d with
  | zero =>
    intro i hi _
    rw [List.drop_of_length_le (by omega)]
    refine Ev.step (f := fun _ => some ((l.drop 1).map toB, 0)) (fun k => ?_) (Ev.now _)
    simp only [bursarref04_Split.l0]
    rw [if_neg (by simp; omega), if_pos (by simp; omega)]
    simp
  | succ d ih =>
    intro i hi h0
    have hlt : i < l.length := by omega
    rw [drop_at l i hlt, List.all_cons]
    refine Ev.step (fun k => ?_) (Ev.bind (name_ev (toB l[i])) (f := fun k t => if t = true then bursarref04_Split.l0 k (l.map toB) ((i + 1 : Nat) : Int) else some ([], 41)) ?_)
    · simp only [bursarref04_Split.l0]
      rw [if_pos (by simp; omega), if_pos (by omega), rd_map l i hlt, w64 i (by omega)]
    · show Ev (fun k => if nameL l[i] = true then _ else _) _
      cases hn : nameL l[i] with
      | true =>
        have := ih (i + 1) (by omega) (by omega)
        simpa using this
      | false => simpa using Ev.now (([], 41) : List ByteArray × Int)
theorem splitS_long (s : ByteArray) (hr : s.data.toList ≠ [47]) (h : s.size > 64) : splitS s = ([], 41) := by
  unfold splitS
  rw [if_neg hr]
  cases hl : s.data.toList with
  | nil => rfl
  | cons c r => exact if_neg (fun h' => by omega)
theorem refSplit_ev (s : ByteArray) (hs : s.size ≤ 1048576) : Ev (fun k => bursarref04_Split.f k s) (splitS s) := by
  have hbad : ∀ l, Ev (fun k => bursarref04_Split.j0 k l true) ([], 41) := fun l => Ev.step (f := fun _ => some ([], 41)) (fun k => by simp [bursarref04_Split.j0]) (Ev.now _)
  by_cases hr : s.data.toList = [47]
  · unfold splitS
    rw [if_pos hr]
    refine Ev.congr (f := fun _ => some ([], 0)) (fun k => ?_) (Ev.now _)
    unfold bursarref04_Split.f; rw [if_pos (lit_list.2 hr)]
  have hp := pieces_ev s 47 hs
  have hlen := pcs_length_le 47 s.data.toList
  rw [size_list] at hlen
  refine Ev.congr (f := fun k => (bursarref04_pieces.f k s 47).bind fun t => if (s.size : Int) > 64 then bursarref04_Split.j0 k t true else if (t.length : Int) < 2 then bursarref04_Split.j0 k t true else if (t.length : Int) > 9 then bursarref04_Split.j0 k t true else if 0 < (t.length : Int) then bursarref04_Split.j0 k t ((rdOf ByteArray.empty t 0).toList != ([] : List UInt8)) else none) (fun k => ?_) ?_
  · unfold bursarref04_Split.f; rw [if_neg (fun h => hr (lit_list.1 h))]
  refine Ev.bind hp ?_
  simp only [List.length_map]
  by_cases h64 : s.size > 64
  · rw [splitS_long s hr h64]
    refine Ev.congr (fun k => ?_) (hbad ((pcs 47 s.data.toList).map toB))
    rw [if_pos (by omega)]
  unfold splitS
  rw [if_neg hr]
  cases hl : s.data.toList with
  | nil =>
    refine Ev.congr (fun k => ?_) (hbad ((pcs 47 []).map toB))
    rw [if_neg (by omega), if_pos (by simp [pcs])]
  | cons c r =>
    by_cases hc : c = 47
    · subst hc
      rw [pcs_hit]
      have hn1 : 1 ≤ (pcs 47 r).length := by
        cases h : pcs 47 r with
        | nil => exact absurd h (pcs_ne _ _)
        | cons _ _ => simp
      by_cases h8 : (pcs 47 r).length ≤ 8
      · have h := rsloop ([] :: pcs 47 r) (by simp; omega) (by simp) (pcs 47 r).length 1 (by simp; omega) (by omega)
        simp only [List.drop_succ_cons, List.drop_zero] at h
        have e : (if (47 : UInt8) = 47 ∧ s.size ≤ 64 ∧ (pcs 47 r).length ≤ 8 ∧ (pcs 47 r).all nameL = true then ((pcs 47 r).map toB, (0 : Int)) else ([], 41)) = (if (pcs 47 r).all nameL = true then ((pcs 47 r).map toB, (0 : Int)) else ([], 41)) := by
          by_cases ha : (pcs 47 r).all nameL = true
          · rw [if_pos ⟨rfl, by omega, h8, ha⟩, if_pos ha]
          · rw [if_neg (fun h => ha h.2.2.2), if_neg ha]
        show Ev _ (if (47 : UInt8) = 47 ∧ s.size ≤ 64 ∧ (pcs 47 r).length ≤ 8 ∧ (pcs 47 r).all nameL = true then ((pcs 47 r).map toB, (0 : Int)) else ([], 41))
        rw [e]
        refine Ev.congr (f := fun k => bursarref04_Split.j0 k (([] :: pcs 47 r).map toB) false) (fun k => ?_) (Ev.step (fun k => ?_) h)
        · have e0 : ((rdOf ByteArray.empty (([] :: pcs 47 r).map toB) 0).toList != ([] : List UInt8)) = false := by
            have := rd_map ([] :: pcs 47 r) 0 (by simp)
            rw [show (0 : Int) = ((0 : Nat) : Int) from rfl, this, ByteArray.toList_eq]
            rfl
          rw [if_neg (by omega), if_neg (by simp; omega), if_neg (by simp; omega), if_pos (by simp), e0]
        · simp [bursarref04_Split.j0]
      · show Ev _ (if (47 : UInt8) = 47 ∧ s.size ≤ 64 ∧ (pcs 47 r).length ≤ 8 ∧ (pcs 47 r).all nameL = true then ((pcs 47 r).map toB, (0 : Int)) else ([], 41))
        rw [if_neg (fun h => h8 h.2.2.1)]
        refine Ev.congr (fun k => ?_) (hbad (([] :: pcs 47 r).map toB))
        rw [if_neg (by omega), if_neg (by simp; omega), if_pos (by simp; omega)]
    · show Ev _ (if c = 47 ∧ s.size ≤ 64 ∧ (pcs 47 r).length ≤ 8 ∧ (pcs 47 r).all nameL = true then ((pcs 47 r).map toB, (0 : Int)) else ([], 41))
      rw [if_neg (fun h => hc h.1)]
      obtain ⟨p, q, h1, h2⟩ := pcs_cons 47 c r hc
      rw [h2]
      by_cases hq2 : ((c :: p) :: q).length < 2
      · refine Ev.congr (fun k => ?_) (hbad (((c :: p) :: q).map toB))
        rw [if_neg (by omega), if_pos (by omega)]
      by_cases hq9 : ((c :: p) :: q).length > 9
      · refine Ev.congr (fun k => ?_) (hbad (((c :: p) :: q).map toB))
        rw [if_neg (by omega), if_neg (by omega), if_pos (by omega)]
      · refine Ev.congr (fun k => ?_) (hbad (((c :: p) :: q).map toB))
        have e0 : ((rdOf ByteArray.empty (((c :: p) :: q).map toB) 0).toList != ([] : List UInt8)) = true := by
          have := rd_map ((c :: p) :: q) 0 (by simp)
          rw [show (0 : Int) = ((0 : Nat) : Int) from rfl, this, ByteArray.toList_eq]
          rfl
        rw [if_neg (by omega), if_neg (by omega), if_neg (by omega), if_pos (by simp), e0]
end Go.Proofs.YtphddbijdfmpjaaDoor.Q
namespace Go.Proofs.YtphddbijdfmpjaaDoor.Q
open Go.RowKit Go.Proofs.YtphddbijdfmpjaaDoorW.PrintWords Go.Proofs.YtphddbijdfmpjaaDoorW.PrintLast Go.Proofs.YtphddbijdfmpjaaDoorW.PrintMore
attribute [local go_sem] binOp_leq_ binOp_gtr_ binOp_geq_ max2_int min2_int max_two min_two max_three min_three max_four min_four   -- for this text's walks alone
set_option linter.unusedVariables false
set_option linter.unusedSimpArgs false
mutual
def bursarref17_Ahead.l0 : Nat → List ByteArray → List ByteArray → Int → Option (Bool)
  | 0, _, _, _ => none
  | k + 1, x5, x7, x9 => if x9 < (x5.length : Int) then (bursarref17_Ahead.j1 k x5 x7 x9 (decide (x9 < (x7.length : Int)))) else (bursarref17_Ahead.j1 k x5 x7 x9 false)
def bursarref17_Ahead.j1 : Nat → List ByteArray → List ByteArray → Int → Bool → Option (Bool)
  | 0, _, _, _, _ => none
  | k + 1, x5, x7, x9, x29 => if x29 = true then (if 0 ≤ x9 then (if x9 < (x5.length : Int) then (if x9 < (x7.length : Int) then (if (rdOf ByteArray.empty x5 x9).toList = (rdOf ByteArray.empty x7 x9).toList then (bursarref17_Ahead.l0 k x5 x7 (wrap64 (x9 + 1))) else (some (Op.bytesLess ((rdOf ByteArray.empty x5 x9).toList) ((rdOf ByteArray.empty x7 x9).toList)))) else (none)) else (none)) else (none)) else (some (decide ((x5.length : Int) < (x7.length : Int))))
end
def bursarref17_Ahead.f (k : Nat) (a0 : ByteArray) (a1 : ByteArray) : Option (Bool) := (bursarref04_Split.f k a0).bind fun bt155 => ((bursarref04_Split.f k a1).bind fun bt159 => (bursarref17_Ahead.l0 k bt155.1 bt159.1 0))
theorem bursarref17_Ahead.mono_l : ∀ k, (∀ y0 y1 y2, LeO (bursarref17_Ahead.l0 k y0 y1 y2) (bursarref17_Ahead.l0 (k + 1) y0 y1 y2)) ∧ (∀ y0 y1 y2 y3, LeO (bursarref17_Ahead.j1 k y0 y1 y2 y3) (bursarref17_Ahead.j1 (k + 1) y0 y1 y2 y3))
  | 0 => ⟨fun _ _ _ r h => by simp [bursarref17_Ahead.l0] at h, fun _ _ _ _ r h => by simp [bursarref17_Ahead.j1] at h⟩
  | k + 1 => by
    obtain ⟨ih0, ih1⟩ := bursarref17_Ahead.mono_l k
    refine ⟨?_, ?_⟩
    · intro y0 y1 y2
      unfold bursarref17_Ahead.l0
      repeat' first
      | (with_reducible exact ih0 _ _ _)
      | (with_reducible exact ih1 _ _ _ _)
      | (with_reducible exact bursarref04_Split.mono _ _)
      | (with_reducible exact LeO.refl _)
      | (with_reducible exact LeO.none _)
      | (with_reducible refine LeO.ite ?_ ?_)
      | (with_reducible refine LeO.bind ?_ (fun _ => ?_))
      | exact ih0 _ _ _
      | exact ih1 _ _ _ _
      | exact bursarref04_Split.mono _ _
      | exact LeO.none _
      | refine LeO.ite ?_ ?_
      | refine LeO.bind ?_ (fun _ => ?_)
    · intro y0 y1 y2 y3
      unfold bursarref17_Ahead.j1
      repeat' first
      | (with_reducible exact ih0 _ _ _)
      | (with_reducible exact ih1 _ _ _ _)
      | (with_reducible exact bursarref04_Split.mono _ _)
      | (with_reducible exact LeO.refl _)
      | (with_reducible exact LeO.none _)
      | (with_reducible refine LeO.ite ?_ ?_)
      | (with_reducible refine LeO.bind ?_ (fun _ => ?_))
      | exact ih0 _ _ _
      | exact ih1 _ _ _ _
      | exact bursarref04_Split.mono _ _
      | exact LeO.none _
      | refine LeO.ite ?_ ?_
      | refine LeO.bind ?_ (fun _ => ?_)
theorem bursarref17_Ahead.mono : ∀ a0 a1 k, LeO (bursarref17_Ahead.f k a0 a1) (bursarref17_Ahead.f (k + 1) a0 a1) := by
  intro a0 a1 k
  obtain ⟨ih0, ih1⟩ := bursarref17_Ahead.mono_l k
  unfold bursarref17_Ahead.f
  repeat' first
      | (with_reducible exact ih0 _ _ _)
      | (with_reducible exact ih1 _ _ _ _)
      | (with_reducible exact bursarref04_Split.mono _ _)
      | (with_reducible exact LeO.refl _)
      | (with_reducible exact LeO.none _)
      | (with_reducible refine LeO.ite ?_ ?_)
      | (with_reducible refine LeO.bind ?_ (fun _ => ?_))
      | exact ih0 _ _ _
      | exact ih1 _ _ _ _
      | exact bursarref04_Split.mono _ _
      | exact LeO.none _
      | refine LeO.ite ?_ ?_
      | refine LeO.bind ?_ (fun _ => ?_)
set_option maxHeartbeats 8000000 in
set_option maxRecDepth 100000 in
theorem bursarref17_Ahead.calls (k : Nat) (a0 : ByteArray) (a1 : ByteArray) (r : Bool) (w : World) (h : bursarref17_Ahead.f k a0 a1 = some r) :
    Calls Tryd.prog 55 #[.string a0, .string a1] w fun e w' => e = .returned (.bool r) ∧ Below w.heap.size w w' := by
  have HB := Aside0.mk (Below.refl w.heap.size w)
  have H : ((bursarref04_Split.f k a0).bind fun bt155 => ((bursarref04_Split.f k a1).bind fun bt159 => (bursarref17_Ahead.l0 k bt155.1 bt159.1 0))) = some r := h
  clear h
  replace H := Option.bind_eq_some_iff.mp H
  obtain ⟨⟨t155, t156⟩, A30, H⟩ := H
  replace H : ((bursarref04_Split.f k a1).bind fun bt159 => (bursarref17_Ahead.l0 k t155 bt159.1 0)) = some r := H
  have A3 := Aside0.mk A30
  clear A30
  replace H := Option.bind_eq_some_iff.mp H
  obtain ⟨⟨t159, t160⟩, A40, H⟩ := H
  replace H : (bursarref17_Ahead.l0 k t155 t159 0) = some r := H
  have A4 := Aside0.mk A40
  clear A40
  have H' := Aside0.mk H
  clear H
  go_enter Tryd.func55, Tryd.ntmps55
  go_wp2_with (first | (go_at_call 73; (with_reducible refine (bursarref04_Split.calls k a0 t155 t156 _ A3.out).mono ?_); rintro e w5 ⟨v157, rfl, ho0, hb⟩; have n0_ := Aside0.mk (Kd.Q_lower ho0 (below_size (by repeat (first | (with_reducible first | exact HB.out | apply below_alloc | apply pw_below_drewN | apply below_drew1) | exact HB.out)))); have n1_ := Aside0.mk (below_step (by repeat (first | (with_reducible first | exact HB.out | apply below_alloc | apply pw_below_drewN | apply below_drew1) | exact HB.out)) hb); clear HB; have HO158 := n0_; have HB := n1_; clear n0_ n1_; (try clear hb); (try clear hb2); (try clear hk); (try clear hi); (try clear ho0)) | (go_at_call 73; (with_reducible refine (bursarref04_Split.calls k a1 t159 t160 _ A4.out).mono ?_); rintro e w6 ⟨v161, rfl, ho0, hb⟩; have n0_ := Aside0.mk (Kd.Q_elder' (by (with_reducible repeat (first | apply Kd.Q_alloc | apply Kd.Q_drewN | apply Kd.Q_drew)); exact HO158.out) (Kd.Q_base ho0) hb); have n1_ := Aside0.mk (Kd.Q_lower (Kd.Q_new' ho0 (Kd.Q_lt (by (with_reducible repeat (first | apply Kd.Q_alloc | apply Kd.Q_drewN | apply Kd.Q_drew)); exact HO158.out))) (below_size (by repeat (first | (with_reducible first | exact HB.out | apply below_alloc | apply pw_below_drewN | apply below_drew1) | exact HB.out)))); have n2_ := Aside0.mk (below_step (by repeat (first | (with_reducible first | exact HB.out | apply below_alloc | apply pw_below_drewN | apply below_drew1) | exact HB.out)) hb); clear HO158; clear HB; have HO158 := n0_; have HO162 := n1_; have HB := n2_; clear n0_ n1_ n2_; (try clear hb); (try clear hb2); (try clear hk); (try clear hi); (try clear ho0)))
  repeat (go_quiet (first | (go_at_call 73; (with_reducible refine (bursarref04_Split.calls k a0 t155 t156 _ A3.out).mono ?_); rintro e w5 ⟨v157, rfl, ho0, hb⟩; have n0_ := Aside0.mk (Kd.Q_lower ho0 (below_size (by repeat (first | (with_reducible first | exact HB.out | apply below_alloc | apply pw_below_drewN | apply below_drew1) | exact HB.out)))); have n1_ := Aside0.mk (below_step (by repeat (first | (with_reducible first | exact HB.out | apply below_alloc | apply pw_below_drewN | apply below_drew1) | exact HB.out)) hb); clear HB; have HO158 := n0_; have HB := n1_; clear n0_ n1_; (try clear hb); (try clear hb2); (try clear hk); (try clear hi); (try clear ho0)) | (go_at_call 73; (with_reducible refine (bursarref04_Split.calls k a1 t159 t160 _ A4.out).mono ?_); rintro e w6 ⟨v161, rfl, ho0, hb⟩; have n0_ := Aside0.mk (Kd.Q_elder' (by (with_reducible repeat (first | apply Kd.Q_alloc | apply Kd.Q_drewN | apply Kd.Q_drew)); exact HO158.out) (Kd.Q_base ho0) hb); have n1_ := Aside0.mk (Kd.Q_lower (Kd.Q_new' ho0 (Kd.Q_lt (by (with_reducible repeat (first | apply Kd.Q_alloc | apply Kd.Q_drewN | apply Kd.Q_drew)); exact HO158.out))) (below_size (by repeat (first | (with_reducible first | exact HB.out | apply below_alloc | apply pw_below_drewN | apply below_drew1) | exact HB.out)))); have n2_ := Aside0.mk (below_step (by repeat (first | (with_reducible first | exact HB.out | apply below_alloc | apply pw_below_drewN | apply below_drew1) | exact HB.out)) hb); clear HO158; clear HB; have HO158 := n0_; have HO162 := n1_; have HB := n2_; clear n0_ n1_ n2_; (try clear hb); (try clear hb2); (try clear hk); (try clear hi); (try clear ho0))); try go_wp2_with (first | (go_at_call 73; (with_reducible refine (bursarref04_Split.calls k a0 t155 t156 _ A3.out).mono ?_); rintro e w5 ⟨v157, rfl, ho0, hb⟩; have n0_ := Aside0.mk (Kd.Q_lower ho0 (below_size (by repeat (first | (with_reducible first | exact HB.out | apply below_alloc | apply pw_below_drewN | apply below_drew1) | exact HB.out)))); have n1_ := Aside0.mk (below_step (by repeat (first | (with_reducible first | exact HB.out | apply below_alloc | apply pw_below_drewN | apply below_drew1) | exact HB.out)) hb); clear HB; have HO158 := n0_; have HB := n1_; clear n0_ n1_; (try clear hb); (try clear hb2); (try clear hk); (try clear hi); (try clear ho0)) | (go_at_call 73; (with_reducible refine (bursarref04_Split.calls k a1 t159 t160 _ A4.out).mono ?_); rintro e w6 ⟨v161, rfl, ho0, hb⟩; have n0_ := Aside0.mk (Kd.Q_elder' (by (with_reducible repeat (first | apply Kd.Q_alloc | apply Kd.Q_drewN | apply Kd.Q_drew)); exact HO158.out) (Kd.Q_base ho0) hb); have n1_ := Aside0.mk (Kd.Q_lower (Kd.Q_new' ho0 (Kd.Q_lt (by (with_reducible repeat (first | apply Kd.Q_alloc | apply Kd.Q_drewN | apply Kd.Q_drew)); exact HO158.out))) (below_size (by repeat (first | (with_reducible first | exact HB.out | apply below_alloc | apply pw_below_drewN | apply below_drew1) | exact HB.out)))); have n2_ := Aside0.mk (below_step (by repeat (first | (with_reducible first | exact HB.out | apply below_alloc | apply pw_below_drewN | apply below_drew1) | exact HB.out)) hb); clear HO158; clear HB; have HO158 := n0_; have HO162 := n1_; have HB := n2_; clear n0_ n1_ n2_; (try clear hb); (try clear hb2); (try clear hk); (try clear hi); (try clear ho0))))
  go_loopg [9] k (fun kq v9 w' => ∃ (x9_1 : Int), v9 = .int .i64 x9_1 ∧ Aside0 (bursarref17_Ahead.l0 kq t155 t159 x9_1 = some r) ∧ Aside0 (kq ≤ k) ∧ Aside0 (Kd.Q Kd.string 9 w' w.heap.size (fun k_ => some k_ ≠ (v161 : Value).ownBlock) v157 t155) ∧ Aside0 (Kd.Q Kd.string 9 w' w.heap.size (fun k_ => some k_ ≠ (v157 : Value).ownBlock) v161 t159) ∧ Aside0 (Below w.heap.size w w'))
  case atStart => exact ⟨(0), (by first | rfl | (simp; done) | (simp [*]; done) | (simp; rw [Bool.eq_iff_iff]; simp; done) | (rw [Bool.eq_iff_iff]; simp; done)), H', ⟨Nat.le_refl _⟩, ⟨by (with_reducible repeat (first | apply Kd.Q_alloc | apply Kd.Q_drewN | apply Kd.Q_drew)); exact Kd.Q_mono HO158.out (fun _ hk => hk.2)⟩, ⟨by (with_reducible repeat (first | apply Kd.Q_alloc | apply Kd.Q_drewN | apply Kd.Q_drew)); exact Kd.Q_mono HO162.out (fun _ hk => hk.2)⟩, ⟨by repeat (first | (with_reducible first | exact HB.out | apply below_alloc | apply pw_below_drewN | apply below_drew1) | exact HB.out)⟩⟩
  case round =>
    clear H'
    try clear p2
    try clear c5
    obtain ⟨x9_1, rfl, HA, HK1, HO_5, HO_7, HB⟩ := hrel
    cases gk with
    | zero => exact absurd HA.out (by simp [bursarref17_Ahead.l0])
    | succ k1 =>
      have H := HA.out
      clear HA
      simp only [bursarref17_Ahead.l0] at H
      have HC7 := Aside0.mk H
      clear H
      go_upto_region 4 with (fail)
      repeat (go_quiet (fail); go_upto_region 4 with (fail))
      go_cut [29] (fun v29 wc => ∃ (kq : Nat) (x29_6 : Bool), v29 = .bool x29_6 ∧ Aside0 (bursarref17_Ahead.j1 kq t155 t159 x9_1 x29_6 = some r) ∧ Aside0 (kq ≤ k1) ∧ Aside0 (Kd.Q Kd.string 9 wc w.heap.size (fun k_ => some k_ ≠ (v161 : Value).ownBlock) v157 t155) ∧ Aside0 (Kd.Q Kd.string 9 wc w.heap.size (fun k_ => some k_ ≠ (v157 : Value).ownBlock) v161 t159) ∧ Aside0 (Below w.heap.size w wc))
      case first =>
        have H := HC7.out
        clear HC7
        by_cases c8 : x9_1 < (t155.length : Int)
        · rw [if_pos c8] at H
          have c8b0 : decide (x9_1 < (t155.length : Int)) = true := decide_eq_true c8
          clear c8
          (first | rw [c8b0] | (simp only [i64_w, i32_w]; rw [c8b0]) | skip)
          have H' := Aside0.mk H
          clear H
          obtain ⟨Ao9, co9, eo9, _⟩ := Kd.Q_slice HO_5.out
          subst eo9
          obtain ⟨Ao10, co10, eo10, _⟩ := Kd.Q_slice HO_7.out
          subst eo10
          go_wp2
          repeat (go_quiet (fail); try go_wp2)
          go_meet
          case rel => exact ⟨_, (decide (x9_1 < (t159.length : Int))), (by first | rfl | (simp; done) | (simp [*]; done) | (simp; rw [Bool.eq_iff_iff]; simp; done) | (rw [Bool.eq_iff_iff]; simp; done)), H', ⟨by have := HK1.out; first | omega | exact Nat.le_refl _⟩, ⟨by (with_reducible repeat (first | apply Kd.Q_alloc | apply Kd.Q_drewN | apply Kd.Q_drew)); exact HO_5.out⟩, ⟨by (with_reducible repeat (first | apply Kd.Q_alloc | apply Kd.Q_drewN | apply Kd.Q_drew)); exact HO_7.out⟩, ⟨by repeat (first | (with_reducible first | exact HB.out | apply below_alloc | apply pw_below_drewN | apply below_drew1) | exact HB.out)⟩⟩
        · rw [if_neg c8] at H
          have c8b0 : decide (x9_1 < (t155.length : Int)) = false := decide_eq_false c8
          clear c8
          (first | rw [c8b0] | (simp only [i64_w, i32_w]; rw [c8b0]) | skip)
          have H' := Aside0.mk H
          clear H
          obtain ⟨Ao11, co11, eo11, _⟩ := Kd.Q_slice HO_5.out
          subst eo11
          go_wp2
          repeat (go_quiet (fail); try go_wp2)
          go_meet
          case rel => exact ⟨_, (false), (by first | rfl | (simp; done) | (simp [*]; done) | (simp; rw [Bool.eq_iff_iff]; simp; done) | (rw [Bool.eq_iff_iff]; simp; done)), H', ⟨by have := HK1.out; first | omega | exact Nat.le_refl _⟩, ⟨by (with_reducible repeat (first | apply Kd.Q_alloc | apply Kd.Q_drewN | apply Kd.Q_drew)); exact HO_5.out⟩, ⟨by (with_reducible repeat (first | apply Kd.Q_alloc | apply Kd.Q_drewN | apply Kd.Q_drew)); exact HO_7.out⟩, ⟨by repeat (first | (with_reducible first | exact HB.out | apply below_alloc | apply pw_below_drewN | apply below_drew1) | exact HB.out)⟩⟩
      case rest =>
        clear HC7
        try clear p2
        try clear c5
        try clear c8
        try clear c8b0
        try clear p2
        obtain ⟨kq, x29_6, rfl, HA, HJ6, HO_5, HO_7, HB⟩ := hcut
        cases kq with
        | zero => exact absurd HA.out (by simp [bursarref17_Ahead.j1])
        | succ kj6 =>
          have H := HA.out
          clear HA
          simp only [bursarref17_Ahead.j1] at H
          by_cases c12 : x29_6 = true
          · subst c12
            have H1 : (if 0 ≤ x9_1 then (if x9_1 < (t155.length : Int) then (if x9_1 < (t159.length : Int) then (if (rdOf ByteArray.empty t155 x9_1).toList = (rdOf ByteArray.empty t159 x9_1).toList then (bursarref17_Ahead.l0 kj6 t155 t159 (wrap64 (x9_1 + 1))) else (some (Op.bytesLess ((rdOf ByteArray.empty t155 x9_1).toList) ((rdOf ByteArray.empty t159 x9_1).toList)))) else (none)) else (none)) else (none)) = some r := by rw [if_pos rfl] at H; exact H
            clear H
            have H := H1
            clear H1
            by_cases c13 : 0 ≤ x9_1
            · rw [if_pos c13] at H
              have c13b0 : decide (0 ≤ x9_1) = true := decide_eq_true c13
              clear c13
              by_cases c14 : x9_1 < (t155.length : Int)
              · rw [if_pos c14] at H
                have c14b0 : decide (x9_1 < (t155.length : Int)) = true := decide_eq_true c14
                clear c14
                by_cases c15 : x9_1 < (t159.length : Int)
                · rw [if_pos c15] at H
                  have c15b0 : decide (x9_1 < (t159.length : Int)) = true := decide_eq_true c15
                  clear c15
                  by_cases c16 : (rdOf ByteArray.empty t155 x9_1).toList = (rdOf ByteArray.empty t159 x9_1).toList
                  · rw [if_pos c16] at H
                    have c16b0 : ((rdOf ByteArray.empty t155 x9_1).toList == (rdOf ByteArray.empty t159 x9_1).toList) = true := beq_iff_eq.mpr c16
                    have c16b1 : ((rdOf ByteArray.empty t155 x9_1).toList != (rdOf ByteArray.empty t159 x9_1).toList) = false := bne_eq_false_iff_eq.mpr c16
                    clear c16
                    have H' := Aside0.mk H
                    clear H
                    obtain ⟨Ao17, co17, eo17, _⟩ := Kd.Q_slice HO_5.out
                    subst eo17
                    have p163 : 0 ≤ (x9_1 : Int) := of_decide_eq_true (by first | (with_reducible assumption) | assumption)
                    have q163 : x9_1 < (t155.length : Int) := of_decide_eq_true (by first | (with_reducible assumption) | assumption)
                    obtain ⟨ad163, e163, hx163_0⟩ := Kd.at_string (Kd.Q_reads' HO_5.out).2.2 x9_1 p163 q163
                    cases e163
                    replace p163 := eq_true p163
                    replace q163 := eq_true q163
                    obtain ⟨Ao18, co18, eo18, _⟩ := Kd.Q_slice HO_7.out
                    subst eo18
                    have p164 : 0 ≤ (x9_1 : Int) := of_decide_eq_true (by first | (with_reducible assumption) | assumption)
                    have q164 : x9_1 < (t159.length : Int) := of_decide_eq_true (by first | (with_reducible assumption) | assumption)
                    obtain ⟨ad164, e164, hx164_0⟩ := Kd.at_string (Kd.Q_reads' HO_7.out).2.2 x9_1 p164 q164
                    cases e164
                    replace p164 := eq_true p164
                    replace q164 := eq_true q164
                    go_wp2
                    repeat (go_quiet (fail); try go_wp2)
                    go_roundg kj6
                    case measure => have := HK1.out; have := HJ6.out; omega
                    case rel => exact ⟨(wrap64 (x9_1 + 1)), (by first | rfl | (simp; done) | (simp [*]; done) | (simp; rw [Bool.eq_iff_iff]; simp; done) | (rw [Bool.eq_iff_iff]; simp; done)), H', ⟨by have := HK1.out; have := HJ6.out; omega⟩, ⟨by (with_reducible repeat (first | apply Kd.Q_alloc | apply Kd.Q_drewN | apply Kd.Q_drew)); exact HO_5.out⟩, ⟨by (with_reducible repeat (first | apply Kd.Q_alloc | apply Kd.Q_drewN | apply Kd.Q_drew)); exact HO_7.out⟩, ⟨by repeat (first | (with_reducible first | exact HB.out | apply below_alloc | apply pw_below_drewN | apply below_drew1) | exact HB.out)⟩⟩
                  · rw [if_neg c16] at H
                    have c16b0 : ((rdOf ByteArray.empty t155 x9_1).toList == (rdOf ByteArray.empty t159 x9_1).toList) = false := beq_eq_false_iff_ne.mpr c16
                    have c16b1 : ((rdOf ByteArray.empty t155 x9_1).toList != (rdOf ByteArray.empty t159 x9_1).toList) = true := bne_iff_ne.mpr c16
                    obtain rfl := Option.some.inj H
                    obtain ⟨Ao19, co19, eo19, _⟩ := Kd.Q_slice HO_5.out
                    subst eo19
                    have p163 : 0 ≤ (x9_1 : Int) := of_decide_eq_true (by first | (with_reducible assumption) | assumption)
                    have q163 : x9_1 < (t155.length : Int) := of_decide_eq_true (by first | (with_reducible assumption) | assumption)
                    obtain ⟨ad163, e163, hx163_0⟩ := Kd.at_string (Kd.Q_reads' HO_5.out).2.2 x9_1 p163 q163
                    cases e163
                    replace p163 := eq_true p163
                    replace q163 := eq_true q163
                    obtain ⟨Ao20, co20, eo20, _⟩ := Kd.Q_slice HO_7.out
                    subst eo20
                    have p164 : 0 ≤ (x9_1 : Int) := of_decide_eq_true (by first | (with_reducible assumption) | assumption)
                    have q164 : x9_1 < (t159.length : Int) := of_decide_eq_true (by first | (with_reducible assumption) | assumption)
                    obtain ⟨ad164, e164, hx164_0⟩ := Kd.at_string (Kd.Q_reads' HO_7.out).2.2 x9_1 p164 q164
                    cases e164
                    replace p164 := eq_true p164
                    replace q164 := eq_true q164
                    have p165 : 0 ≤ (x9_1 : Int) := of_decide_eq_true (by first | (with_reducible assumption) | assumption)
                    have q165 : x9_1 < (t155.length : Int) := of_decide_eq_true (by first | (with_reducible assumption) | assumption)
                    obtain ⟨ad165, e165, hx165_0⟩ := Kd.at_string (Kd.Q_reads' HO_5.out).2.2 x9_1 p165 q165
                    obtain rfl : ad163 = ad165 := (by injection e165)
                    replace p165 := eq_true p165
                    replace q165 := eq_true q165
                    have p166 : 0 ≤ (x9_1 : Int) := of_decide_eq_true (by first | (with_reducible assumption) | assumption)
                    have q166 : x9_1 < (t159.length : Int) := of_decide_eq_true (by first | (with_reducible assumption) | assumption)
                    obtain ⟨ad166, e166, hx166_0⟩ := Kd.at_string (Kd.Q_reads' HO_7.out).2.2 x9_1 p166 q166
                    obtain rfl : ad164 = ad166 := (by injection e166)
                    replace p166 := eq_true p166
                    replace q166 := eq_true q166
                    go_wp2
                    repeat (go_quiet (fail); try go_wp2)
                    go_ret
                    exact ⟨by first | rfl | (simp [errW_none, errW_some] <;> rfl) | (simp [*, errW_none, errW_some] <;> rfl), by repeat (first | (with_reducible first | exact HB.out | apply below_alloc | apply pw_below_drewN | apply below_drew1) | exact HB.out)⟩
                · rw [if_neg c15] at H
                  exact absurd H (by simp)
              · rw [if_neg c14] at H
                exact absurd H (by simp)
            · rw [if_neg c13] at H
              exact absurd H (by simp)
          · replace c12 := Bool.eq_false_iff.mpr c12
            subst c12
            have H1 : (some (decide ((t155.length : Int) < (t159.length : Int)))) = some r := by rw [if_neg (show ¬ (false = true) by decide)] at H; exact H
            clear H
            have H := H1
            clear H1
            obtain rfl := Option.some.inj H
            obtain ⟨Ao21, co21, eo21, _⟩ := Kd.Q_slice HO_5.out
            subst eo21
            obtain ⟨Ao22, co22, eo22, _⟩ := Kd.Q_slice HO_7.out
            subst eo22
            go_wp2
            repeat (go_quiet (fail); try go_wp2)
            go_ret
            exact ⟨by first | rfl | (simp [errW_none, errW_some] <;> rfl) | (simp [*, errW_none, errW_some] <;> rfl), by repeat (first | (with_reducible first | exact HB.out | apply below_alloc | apply pw_below_drewN | apply below_drew1) | exact HB.out)⟩
end Go.Proofs.YtphddbijdfmpjaaDoor.Q
namespace Go.Proofs.YtphddbijdfmpjaaDoor.Q
open Go.RowKit Go.Proofs.YtphddbijdfmpjaaDoorW.PrintWords Go.Proofs.YtphddbijdfmpjaaDoorW.PrintLast Go.Proofs.YtphddbijdfmpjaaDoorW.PrintMore
attribute [local go_sem] max2_int min2_int max_two min_two max_three min_three max_four min_four   -- for this text's walks alone
set_option linter.unusedVariables false
set_option linter.unusedSimpArgs false
def bursarref04_Path.f (k : Nat) (a0 : ByteArray) : Option (Int) := (bursarref04_Split.f k a0).bind fun bt167 => (some bt167.2)
theorem bursarref04_Path.mono : ∀ a0 k, LeO (bursarref04_Path.f k a0) (bursarref04_Path.f (k + 1) a0) := by
  intro a0 k
  unfold bursarref04_Path.f
  repeat' first
      | (with_reducible exact bursarref04_Split.mono _ _)
      | (with_reducible exact LeO.refl _)
      | (with_reducible exact LeO.none _)
      | (with_reducible refine LeO.ite ?_ ?_)
      | (with_reducible refine LeO.bind ?_ (fun _ => ?_))
      | exact bursarref04_Split.mono _ _
      | exact LeO.none _
      | refine LeO.ite ?_ ?_
      | refine LeO.bind ?_ (fun _ => ?_)
set_option maxHeartbeats 8000000 in
set_option maxRecDepth 100000 in
theorem bursarref04_Path.calls (k : Nat) (a0 : ByteArray) (r : Int) (w : World) (h : bursarref04_Path.f k a0 = some r) :
    Calls Tryd.prog 92 #[.string a0] w fun e w' => e = .returned (.int .i64 r) ∧ Below w.heap.size w w' := by
  have HB := Aside0.mk (Below.refl w.heap.size w)
  have H : ((bursarref04_Split.f k a0).bind fun bt167 => (some bt167.2)) = some r := h
  clear h
  replace H := Option.bind_eq_some_iff.mp H
  obtain ⟨⟨t167, t168⟩, A20, H⟩ := H
  replace H : (some t168) = some r := H
  have A2 := Aside0.mk A20
  clear A20
  obtain rfl := Option.some.inj H
  go_enter Tryd.func92, Tryd.ntmps92
  go_wp2_with (first | ((with_reducible refine gate_callee (f := 73) rfl ?_); refine goesL_ (some 7) rfl rfl Tryd.func73 (by kernel_rfl) rfl #[.string a0] rfl (by (try simp only [List.map_toArray, List.map_cons, List.map_nil]); first | done | rfl | (simp only [List.length_drop, List.length_take]; rfl)) ?_; (with_reducible refine (bursarref04_Split.calls k a0 t167 t168 _ A2.out).mono ?_); rintro e w3 ⟨v169, rfl, ho0, hb⟩; refine ⟨_, rfl, ?_⟩; have n0_ := Aside0.mk (Kd.Q_lower ho0 (below_size (by repeat (first | (with_reducible first | exact HB.out | apply below_alloc | apply pw_below_drewN | apply below_drew1) | exact HB.out)))); have n1_ := Aside0.mk (below_step (by repeat (first | (with_reducible first | exact HB.out | apply below_alloc | apply pw_below_drewN | apply below_drew1) | exact HB.out)) hb); clear HB; have HO170 := n0_; have HB := n1_; clear n0_ n1_; (try clear hb); (try clear hb2); (try clear hk); (try clear hi); (try clear ho0)))
  go_ret
  exact ⟨by first | rfl | (simp [errW_none, errW_some] <;> rfl) | (simp [*, errW_none, errW_some] <;> rfl), by repeat (first | (with_reducible first | exact HB.out | apply below_alloc | apply pw_below_drewN | apply below_drew1) | exact HB.out)⟩
end Go.Proofs.YtphddbijdfmpjaaDoor.Q
namespace Go.Proofs.YtphddbijdfmpjaaDoor.Q
open Go.RowKit Go.Proofs.YtphddbijdfmpjaaDoorW.PrintWords Go.Proofs.YtphddbijdfmpjaaDoorW.PrintLast Go.Proofs.YtphddbijdfmpjaaDoorW.PrintMore
attribute [local go_sem] max2_int min2_int max_two min_two max_three min_three max_four min_four   -- for this text's walks alone
set_option linter.unusedVariables false
set_option linter.unusedSimpArgs false
def bursarref13_named.f (k : Nat) (a0 : ByteArray) (a1 : ByteArray) : Option (Bool) := (bursarref04_Path.f k a0).bind fun t171 => (if t171 = 0 then ((bursarref04_Name.f k a1).bind fun t172 => (some t172)) else (some false))
theorem bursarref13_named.mono : ∀ a0 a1 k, LeO (bursarref13_named.f k a0 a1) (bursarref13_named.f (k + 1) a0 a1) := by
  intro a0 a1 k
  unfold bursarref13_named.f
  repeat' first
      | (with_reducible exact bursarref04_Name.mono _ _)
      | (with_reducible exact bursarref04_Path.mono _ _)
      | (with_reducible exact LeO.refl _)
      | (with_reducible exact LeO.none _)
      | (with_reducible refine LeO.ite ?_ ?_)
      | (with_reducible refine LeO.bind ?_ (fun _ => ?_))
      | exact bursarref04_Name.mono _ _
      | exact bursarref04_Path.mono _ _
      | exact LeO.none _
      | refine LeO.ite ?_ ?_
      | refine LeO.bind ?_ (fun _ => ?_)
set_option maxHeartbeats 8000000 in
set_option maxRecDepth 100000 in
theorem bursarref13_named.calls (k : Nat) (a0 : ByteArray) (a1 : ByteArray) (r : Bool) (w : World) (h : bursarref13_named.f k a0 a1 = some r) :
    Calls Tryd.prog 71 #[.string a0, .string a1] w fun e w' => e = .returned (.bool r) ∧ Below w.heap.size w w' := by
  have HB := Aside0.mk (Below.refl w.heap.size w)
  have H : ((bursarref04_Path.f k a0).bind fun t171 => (if t171 = 0 then ((bursarref04_Name.f k a1).bind fun t172 => (some t172)) else (some false))) = some r := h
  clear h
  replace H := Option.bind_eq_some_iff.mp H
  obtain ⟨t171, A30, H⟩ := H
  replace H : (if t171 = 0 then ((bursarref04_Name.f k a1).bind fun t172 => (some t172)) else (some false)) = some r := H
  have A3 := Aside0.mk A30
  clear A30
  by_cases c4 : t171 = 0
  · rw [if_pos c4] at H
    have c4b0 : (t171 == 0) = true := beq_iff_eq.mpr c4
    have c4b1 : (t171 != 0) = false := bne_eq_false_iff_eq.mpr c4
    clear c4
    replace H := Option.bind_eq_some_iff.mp H
    obtain ⟨t172, A50, H⟩ := H
    replace H : (some t172) = some r := H
    have A5 := Aside0.mk A50
    clear A50
    obtain rfl := Option.some.inj H
    go_enter Tryd.func71, Tryd.ntmps71
    go_wp2_with (first | ((with_reducible refine gate_callee (f := 92) rfl ?_); refine goesL_ (some 7) rfl rfl Tryd.func92 (by kernel_rfl) rfl #[.string a0] rfl (by (try simp only [List.map_toArray, List.map_cons, List.map_nil]); first | done | rfl | (simp only [List.length_drop, List.length_take]; rfl)) ?_; (with_reducible refine (bursarref04_Path.calls k a0 t171 _ A3.out).mono ?_); rintro e w6 ⟨rfl, hb⟩; refine ⟨_, rfl, ?_⟩; have n0_ := Aside0.mk (below_step (by repeat (first | (with_reducible first | exact HB.out | apply below_alloc | apply pw_below_drewN | apply below_drew1) | exact HB.out)) hb); clear HB; have HB := n0_; clear n0_; (try clear hb); (try clear hb2); (try clear hk); (try clear hi)) | (go_at_call 72; (with_reducible refine (bursarref04_Name.calls k a1 t172 _ A5.out).mono ?_); rintro e w' ⟨rfl, ⟨nd, rfl⟩⟩))
    go_ret
    exact ⟨by first | rfl | (simp [errW_none, errW_some] <;> rfl) | (simp [*, errW_none, errW_some] <;> rfl), by repeat (first | (with_reducible first | exact HB.out | apply below_alloc | apply pw_below_drewN | apply below_drew1) | exact HB.out)⟩
  · rw [if_neg c4] at H
    have c4b0 : (t171 == 0) = false := beq_eq_false_iff_ne.mpr c4
    have c4b1 : (t171 != 0) = true := bne_iff_ne.mpr c4
    obtain rfl := Option.some.inj H
    go_enter Tryd.func71, Tryd.ntmps71
    go_wp2_with (first | ((with_reducible refine gate_callee (f := 92) rfl ?_); refine goesL_ (some 7) rfl rfl Tryd.func92 (by kernel_rfl) rfl #[.string a0] rfl (by (try simp only [List.map_toArray, List.map_cons, List.map_nil]); first | done | rfl | (simp only [List.length_drop, List.length_take]; rfl)) ?_; (with_reducible refine (bursarref04_Path.calls k a0 t171 _ A3.out).mono ?_); rintro e w7 ⟨rfl, hb⟩; refine ⟨_, rfl, ?_⟩; have n0_ := Aside0.mk (below_step (by repeat (first | (with_reducible first | exact HB.out | apply below_alloc | apply pw_below_drewN | apply below_drew1) | exact HB.out)) hb); clear HB; have HB := n0_; clear n0_; (try clear hb); (try clear hb2); (try clear hk); (try clear hi)))
    go_ret
    exact ⟨by first | rfl | (simp [errW_none, errW_some] <;> rfl) | (simp [*, errW_none, errW_some] <;> rfl), by repeat (first | (with_reducible first | exact HB.out | apply below_alloc | apply pw_below_drewN | apply below_drew1) | exact HB.out)⟩
end Go.Proofs.YtphddbijdfmpjaaDoor.Q
namespace Go.Proofs.YtphddbijdfmpjaaDoor.Q
open Go.RowKit Go.Proofs.YtphddbijdfmpjaaDoorW.PrintWords Go.Proofs.YtphddbijdfmpjaaDoorW.PrintLast Go.Proofs.YtphddbijdfmpjaaDoorW.PrintMore
attribute [local go_sem] max2_int min2_int max_two min_two max_three min_three max_four min_four   -- for this text's walks alone
set_option linter.unusedVariables false
set_option linter.unusedSimpArgs false
def bursarref13_FormedBinding.f (k : Nat) (a0_0 : ByteArray) (a0_1 : ByteArray) (a0_2 : ByteArray) (a0_3 : Int) : Option (Bool) := (bursarref13_named.f k a0_0 a0_1).bind fun t174 => (if t174 = true then ((bursarref04_Name.f k a0_2).bind fun t175 => (if t175 = true then (if a0_3 ≥ 0 then (some (decide (a0_3 ≤ 3))) else (some false)) else (some false))) else (some false))
theorem bursarref13_FormedBinding.mono : ∀ a0 a1 a2 a3 k, LeO (bursarref13_FormedBinding.f k a0 a1 a2 a3) (bursarref13_FormedBinding.f (k + 1) a0 a1 a2 a3) := by
  intro a0 a1 a2 a3 k
  unfold bursarref13_FormedBinding.f
  repeat' first
      | (with_reducible exact bursarref04_Name.mono _ _)
      | (with_reducible exact bursarref13_named.mono _ _ _)
      | (with_reducible exact LeO.refl _)
      | (with_reducible exact LeO.none _)
      | (with_reducible refine LeO.ite ?_ ?_)
      | (with_reducible refine LeO.bind ?_ (fun _ => ?_))
      | exact bursarref04_Name.mono _ _
      | exact bursarref13_named.mono _ _ _
      | exact LeO.none _
      | refine LeO.ite ?_ ?_
      | refine LeO.bind ?_ (fun _ => ?_)
set_option maxHeartbeats 8000000 in
set_option maxRecDepth 100000 in
theorem bursarref13_FormedBinding.calls (k : Nat) (a0_0 : ByteArray) (a0_1 : ByteArray) (a0_2 : ByteArray) (a0_3 : Int) (r : Bool) (w : World) (h : bursarref13_FormedBinding.f k a0_0 a0_1 a0_2 a0_3 = some r) :
    Calls Tryd.prog 53 #[.agg #[.string a0_0, .string a0_1, .string a0_2, .int .i64 a0_3]] w fun e w' => e = .returned (.bool r) ∧ Below w.heap.size w w' := by
  have hu27 := Tryd.underlying27
  have HB := Aside0.mk (Below.refl w.heap.size w)
  have H : ((bursarref13_named.f k a0_0 a0_1).bind fun t174 => (if t174 = true then ((bursarref04_Name.f k a0_2).bind fun t175 => (if t175 = true then (if a0_3 ≥ 0 then (some (decide (a0_3 ≤ 3))) else (some false)) else (some false))) else (some false))) = some r := h
  clear h
  replace H := Option.bind_eq_some_iff.mp H
  obtain ⟨t174, A20, H⟩ := H
  replace H : (if t174 = true then ((bursarref04_Name.f k a0_2).bind fun t175 => (if t175 = true then (if a0_3 ≥ 0 then (some (decide (a0_3 ≤ 3))) else (some false)) else (some false))) else (some false)) = some r := H
  have A2 := Aside0.mk A20
  clear A20
  by_cases c3 : t174 = true
  · subst c3
    have H1 : ((bursarref04_Name.f k a0_2).bind fun t175 => (if t175 = true then (if a0_3 ≥ 0 then (some (decide (a0_3 ≤ 3))) else (some false)) else (some false))) = some r := by rw [if_pos rfl] at H; exact H
    clear H
    have H := H1
    clear H1
    replace H := Option.bind_eq_some_iff.mp H
    obtain ⟨t175, A40, H⟩ := H
    replace H : (if t175 = true then (if a0_3 ≥ 0 then (some (decide (a0_3 ≤ 3))) else (some false)) else (some false)) = some r := H
    have A4 := Aside0.mk A40
    clear A40
    by_cases c5 : t175 = true
    · subst c5
      have H1 : (if a0_3 ≥ 0 then (some (decide (a0_3 ≤ 3))) else (some false)) = some r := by rw [if_pos rfl] at H; exact H
      clear H
      have H := H1
      clear H1
      by_cases c6 : a0_3 ≥ 0
      · rw [if_pos c6] at H
        have c6b0 : decide (0 ≤ a0_3) = true := decide_eq_true c6
        clear c6
        obtain rfl := Option.some.inj H
        go_enter Tryd.func53, Tryd.ntmps53
        go_wp2_with (first | ((with_reducible refine gate_dst (N := 1) rfl ?_); refine box_event ?hg (N := 1) ?hd (cs := #[.string a0_0, .string a0_1, .string a0_2, .int .i64 a0_3]) (t := 27) ?hr ?_; (case hd => rfl); (case hg => rfl); (case hr => first | (go_simp; done) | (go_simp; rfl)); intro gb173 hg w7 hbox hb; have n0_ := Aside0.mk (below_step (by repeat (first | (with_reducible first | exact HB.out | apply below_alloc | apply pw_below_drewN | apply below_drew1) | exact HB.out)) hb); have n1_ := Aside0.mk (hbox); have n2_ := Aside0.mk ((by rw [hg]; exact (below_size (by repeat (first | (with_reducible first | exact HB.out | apply below_alloc | apply pw_below_drewN | apply below_drew1) | exact HB.out))) : w.heap.size ≤ gb173)); have n3_ := Aside0.mk ((by rw [hg]; exact (below_size (by repeat (first | (with_reducible first | exact HB.out | apply below_alloc | apply pw_below_drewN | apply below_drew1) | exact HB.out))) : w.heap.size ≤ gb173)); clear HB; have HB := n0_; have BK173 := n1_; have GW173 := n2_; have GE173 := n3_; clear n0_ n1_ n2_ n3_; clear hb hbox hg; have hcz8_0 : w7.cell? ⟨gb173, 0, none⟩ = some (.string a0_0) := (blk_cell BK173.out 0).trans rfl; have hcz8_1 : w7.cell? ⟨gb173, 1, none⟩ = some (.string a0_1) := (blk_cell BK173.out 1).trans rfl; have hcz8_2 : w7.cell? ⟨gb173, 2, none⟩ = some (.string a0_2) := (blk_cell BK173.out 2).trans rfl; have hcz8_3 : w7.cell? ⟨gb173, 3, none⟩ = some (.int .i64 a0_3) := (blk_cell BK173.out 3).trans rfl; have hfz8_0 := blk_frozen BK173.out 0; have hfz8_1 := blk_frozen BK173.out 1; have hfz8_2 := blk_frozen BK173.out 2; have hfz8_3 := blk_frozen BK173.out 3) | ((with_reducible refine gate_callee (f := 71) rfl ?_); refine goesL_ (some 7) rfl rfl Tryd.func71 (by kernel_rfl) rfl #[.string a0_0, .string a0_1] rfl (by (try simp only [List.map_toArray, List.map_cons, List.map_nil]); first | done | rfl | (simp only [List.length_drop, List.length_take]; rfl)) ?_; (with_reducible refine (bursarref13_named.calls k a0_0 a0_1 true _ A2.out).mono ?_); rintro e w9 ⟨rfl, hb⟩; refine ⟨_, rfl, ?_⟩; have n0_ := Aside0.mk (blk_below (g := gb173) (o := .cells #[.string a0_0, .string a0_1, .string a0_2, .int .i64 a0_3] 27 (0, 0)) (by (with_reducible repeat (first | refine blk_drewN ?_ _ | refine blk_drew ?_ | refine blk_alloc ?_ _)); exact BK173.out) hb); have n1_ := Aside0.mk (below_step (by repeat (first | (with_reducible first | exact HB.out | apply below_alloc | apply pw_below_drewN | apply below_drew1 | refine below_set ?_ GE173.out) | exact HB.out)) hb); clear BK173; clear HB; have BK173 := n0_; have HB := n1_; clear n0_ n1_; (try clear hb); (try clear hb2); (try clear hk); (try clear hi); have hcz10_0 : w9.cell? ⟨gb173, 0, none⟩ = some (.string a0_0) := (blk_cell BK173.out 0).trans rfl; have hcz10_1 : w9.cell? ⟨gb173, 1, none⟩ = some (.string a0_1) := (blk_cell BK173.out 1).trans rfl; have hcz10_2 : w9.cell? ⟨gb173, 2, none⟩ = some (.string a0_2) := (blk_cell BK173.out 2).trans rfl; have hcz10_3 : w9.cell? ⟨gb173, 3, none⟩ = some (.int .i64 a0_3) := (blk_cell BK173.out 3).trans rfl; have hfz10_0 := blk_frozen BK173.out 0; have hfz10_1 := blk_frozen BK173.out 1; have hfz10_2 := blk_frozen BK173.out 2; have hfz10_3 := blk_frozen BK173.out 3) | (go_at_call 72; (with_reducible refine (bursarref04_Name.calls k a0_2 true _ A4.out).mono ?_); rintro e w' ⟨rfl, ⟨nd, rfl⟩⟩))
        go_ret
        exact ⟨by first | rfl | (simp [errW_none, errW_some] <;> rfl) | (simp [*, errW_none, errW_some] <;> rfl), by repeat (first | (with_reducible first | exact HB.out | apply below_alloc | apply pw_below_drewN | apply below_drew1 | refine below_set ?_ GE173.out) | exact HB.out)⟩
      · rw [if_neg c6] at H
        have c6b0 : decide (0 ≤ a0_3) = false := decide_eq_false c6
        clear c6
        obtain rfl := Option.some.inj H
        go_enter Tryd.func53, Tryd.ntmps53
        go_wp2_with (first | ((with_reducible refine gate_dst (N := 1) rfl ?_); refine box_event ?hg (N := 1) ?hd (cs := #[.string a0_0, .string a0_1, .string a0_2, .int .i64 a0_3]) (t := 27) ?hr ?_; (case hd => rfl); (case hg => rfl); (case hr => first | (go_simp; done) | (go_simp; rfl)); intro gb173 hg w11 hbox hb; have n0_ := Aside0.mk (below_step (by repeat (first | (with_reducible first | exact HB.out | apply below_alloc | apply pw_below_drewN | apply below_drew1) | exact HB.out)) hb); have n1_ := Aside0.mk (hbox); have n2_ := Aside0.mk ((by rw [hg]; exact (below_size (by repeat (first | (with_reducible first | exact HB.out | apply below_alloc | apply pw_below_drewN | apply below_drew1) | exact HB.out))) : w.heap.size ≤ gb173)); have n3_ := Aside0.mk ((by rw [hg]; exact (below_size (by repeat (first | (with_reducible first | exact HB.out | apply below_alloc | apply pw_below_drewN | apply below_drew1) | exact HB.out))) : w.heap.size ≤ gb173)); clear HB; have HB := n0_; have BK173 := n1_; have GW173 := n2_; have GE173 := n3_; clear n0_ n1_ n2_ n3_; clear hb hbox hg; have hcz12_0 : w11.cell? ⟨gb173, 0, none⟩ = some (.string a0_0) := (blk_cell BK173.out 0).trans rfl; have hcz12_1 : w11.cell? ⟨gb173, 1, none⟩ = some (.string a0_1) := (blk_cell BK173.out 1).trans rfl; have hcz12_2 : w11.cell? ⟨gb173, 2, none⟩ = some (.string a0_2) := (blk_cell BK173.out 2).trans rfl; have hcz12_3 : w11.cell? ⟨gb173, 3, none⟩ = some (.int .i64 a0_3) := (blk_cell BK173.out 3).trans rfl; have hfz12_0 := blk_frozen BK173.out 0; have hfz12_1 := blk_frozen BK173.out 1; have hfz12_2 := blk_frozen BK173.out 2; have hfz12_3 := blk_frozen BK173.out 3) | ((with_reducible refine gate_callee (f := 71) rfl ?_); refine goesL_ (some 7) rfl rfl Tryd.func71 (by kernel_rfl) rfl #[.string a0_0, .string a0_1] rfl (by (try simp only [List.map_toArray, List.map_cons, List.map_nil]); first | done | rfl | (simp only [List.length_drop, List.length_take]; rfl)) ?_; (with_reducible refine (bursarref13_named.calls k a0_0 a0_1 true _ A2.out).mono ?_); rintro e w13 ⟨rfl, hb⟩; refine ⟨_, rfl, ?_⟩; have n0_ := Aside0.mk (blk_below (g := gb173) (o := .cells #[.string a0_0, .string a0_1, .string a0_2, .int .i64 a0_3] 27 (0, 0)) (by (with_reducible repeat (first | refine blk_drewN ?_ _ | refine blk_drew ?_ | refine blk_alloc ?_ _)); exact BK173.out) hb); have n1_ := Aside0.mk (below_step (by repeat (first | (with_reducible first | exact HB.out | apply below_alloc | apply pw_below_drewN | apply below_drew1 | refine below_set ?_ GE173.out) | exact HB.out)) hb); clear BK173; clear HB; have BK173 := n0_; have HB := n1_; clear n0_ n1_; (try clear hb); (try clear hb2); (try clear hk); (try clear hi); have hcz14_0 : w13.cell? ⟨gb173, 0, none⟩ = some (.string a0_0) := (blk_cell BK173.out 0).trans rfl; have hcz14_1 : w13.cell? ⟨gb173, 1, none⟩ = some (.string a0_1) := (blk_cell BK173.out 1).trans rfl; have hcz14_2 : w13.cell? ⟨gb173, 2, none⟩ = some (.string a0_2) := (blk_cell BK173.out 2).trans rfl; have hcz14_3 : w13.cell? ⟨gb173, 3, none⟩ = some (.int .i64 a0_3) := (blk_cell BK173.out 3).trans rfl; have hfz14_0 := blk_frozen BK173.out 0; have hfz14_1 := blk_frozen BK173.out 1; have hfz14_2 := blk_frozen BK173.out 2; have hfz14_3 := blk_frozen BK173.out 3) | (go_at_call 72; (with_reducible refine (bursarref04_Name.calls k a0_2 true _ A4.out).mono ?_); rintro e w' ⟨rfl, ⟨nd, rfl⟩⟩))
        go_ret
        exact ⟨by first | rfl | (simp [errW_none, errW_some] <;> rfl) | (simp [*, errW_none, errW_some] <;> rfl), by repeat (first | (with_reducible first | exact HB.out | apply below_alloc | apply pw_below_drewN | apply below_drew1 | refine below_set ?_ GE173.out) | exact HB.out)⟩
    · replace c5 := Bool.eq_false_iff.mpr c5
      subst c5
      have H1 : (some false) = some r := by rw [if_neg (show ¬ (false = true) by decide)] at H; exact H
      clear H
      have H := H1
      clear H1
      obtain rfl := Option.some.inj H
      go_enter Tryd.func53, Tryd.ntmps53
      go_wp2_with (first | ((with_reducible refine gate_dst (N := 1) rfl ?_); refine box_event ?hg (N := 1) ?hd (cs := #[.string a0_0, .string a0_1, .string a0_2, .int .i64 a0_3]) (t := 27) ?hr ?_; (case hd => rfl); (case hg => rfl); (case hr => first | (go_simp; done) | (go_simp; rfl)); intro gb173 hg w15 hbox hb; have n0_ := Aside0.mk (below_step (by repeat (first | (with_reducible first | exact HB.out | apply below_alloc | apply pw_below_drewN | apply below_drew1) | exact HB.out)) hb); have n1_ := Aside0.mk (hbox); have n2_ := Aside0.mk ((by rw [hg]; exact (below_size (by repeat (first | (with_reducible first | exact HB.out | apply below_alloc | apply pw_below_drewN | apply below_drew1) | exact HB.out))) : w.heap.size ≤ gb173)); have n3_ := Aside0.mk ((by rw [hg]; exact (below_size (by repeat (first | (with_reducible first | exact HB.out | apply below_alloc | apply pw_below_drewN | apply below_drew1) | exact HB.out))) : w.heap.size ≤ gb173)); clear HB; have HB := n0_; have BK173 := n1_; have GW173 := n2_; have GE173 := n3_; clear n0_ n1_ n2_ n3_; clear hb hbox hg; have hcz16_0 : w15.cell? ⟨gb173, 0, none⟩ = some (.string a0_0) := (blk_cell BK173.out 0).trans rfl; have hcz16_1 : w15.cell? ⟨gb173, 1, none⟩ = some (.string a0_1) := (blk_cell BK173.out 1).trans rfl; have hcz16_2 : w15.cell? ⟨gb173, 2, none⟩ = some (.string a0_2) := (blk_cell BK173.out 2).trans rfl; have hcz16_3 : w15.cell? ⟨gb173, 3, none⟩ = some (.int .i64 a0_3) := (blk_cell BK173.out 3).trans rfl; have hfz16_0 := blk_frozen BK173.out 0; have hfz16_1 := blk_frozen BK173.out 1; have hfz16_2 := blk_frozen BK173.out 2; have hfz16_3 := blk_frozen BK173.out 3) | ((with_reducible refine gate_callee (f := 71) rfl ?_); refine goesL_ (some 7) rfl rfl Tryd.func71 (by kernel_rfl) rfl #[.string a0_0, .string a0_1] rfl (by (try simp only [List.map_toArray, List.map_cons, List.map_nil]); first | done | rfl | (simp only [List.length_drop, List.length_take]; rfl)) ?_; (with_reducible refine (bursarref13_named.calls k a0_0 a0_1 true _ A2.out).mono ?_); rintro e w17 ⟨rfl, hb⟩; refine ⟨_, rfl, ?_⟩; have n0_ := Aside0.mk (blk_below (g := gb173) (o := .cells #[.string a0_0, .string a0_1, .string a0_2, .int .i64 a0_3] 27 (0, 0)) (by (with_reducible repeat (first | refine blk_drewN ?_ _ | refine blk_drew ?_ | refine blk_alloc ?_ _)); exact BK173.out) hb); have n1_ := Aside0.mk (below_step (by repeat (first | (with_reducible first | exact HB.out | apply below_alloc | apply pw_below_drewN | apply below_drew1 | refine below_set ?_ GE173.out) | exact HB.out)) hb); clear BK173; clear HB; have BK173 := n0_; have HB := n1_; clear n0_ n1_; (try clear hb); (try clear hb2); (try clear hk); (try clear hi); have hcz18_0 : w17.cell? ⟨gb173, 0, none⟩ = some (.string a0_0) := (blk_cell BK173.out 0).trans rfl; have hcz18_1 : w17.cell? ⟨gb173, 1, none⟩ = some (.string a0_1) := (blk_cell BK173.out 1).trans rfl; have hcz18_2 : w17.cell? ⟨gb173, 2, none⟩ = some (.string a0_2) := (blk_cell BK173.out 2).trans rfl; have hcz18_3 : w17.cell? ⟨gb173, 3, none⟩ = some (.int .i64 a0_3) := (blk_cell BK173.out 3).trans rfl; have hfz18_0 := blk_frozen BK173.out 0; have hfz18_1 := blk_frozen BK173.out 1; have hfz18_2 := blk_frozen BK173.out 2; have hfz18_3 := blk_frozen BK173.out 3) | (go_at_call 72; (with_reducible refine (bursarref04_Name.calls k a0_2 false _ A4.out).mono ?_); rintro e w' ⟨rfl, ⟨nd, rfl⟩⟩))
      go_ret
      exact ⟨by first | rfl | (simp [errW_none, errW_some] <;> rfl) | (simp [*, errW_none, errW_some] <;> rfl), by repeat (first | (with_reducible first | exact HB.out | apply below_alloc | apply pw_below_drewN | apply below_drew1 | refine below_set ?_ GE173.out) | exact HB.out)⟩
  · replace c3 := Bool.eq_false_iff.mpr c3
    subst c3
    have H1 : (some false) = some r := by rw [if_neg (show ¬ (false = true) by decide)] at H; exact H
    clear H
    have H := H1
    clear H1
    obtain rfl := Option.some.inj H
    go_enter Tryd.func53, Tryd.ntmps53
    go_wp2_with (first | ((with_reducible refine gate_dst (N := 1) rfl ?_); refine box_event ?hg (N := 1) ?hd (cs := #[.string a0_0, .string a0_1, .string a0_2, .int .i64 a0_3]) (t := 27) ?hr ?_; (case hd => rfl); (case hg => rfl); (case hr => first | (go_simp; done) | (go_simp; rfl)); intro gb173 hg w19 hbox hb; have n0_ := Aside0.mk (below_step (by repeat (first | (with_reducible first | exact HB.out | apply below_alloc | apply pw_below_drewN | apply below_drew1) | exact HB.out)) hb); have n1_ := Aside0.mk (hbox); have n2_ := Aside0.mk ((by rw [hg]; exact (below_size (by repeat (first | (with_reducible first | exact HB.out | apply below_alloc | apply pw_below_drewN | apply below_drew1) | exact HB.out))) : w.heap.size ≤ gb173)); have n3_ := Aside0.mk ((by rw [hg]; exact (below_size (by repeat (first | (with_reducible first | exact HB.out | apply below_alloc | apply pw_below_drewN | apply below_drew1) | exact HB.out))) : w.heap.size ≤ gb173)); clear HB; have HB := n0_; have BK173 := n1_; have GW173 := n2_; have GE173 := n3_; clear n0_ n1_ n2_ n3_; clear hb hbox hg; have hcz20_0 : w19.cell? ⟨gb173, 0, none⟩ = some (.string a0_0) := (blk_cell BK173.out 0).trans rfl; have hcz20_1 : w19.cell? ⟨gb173, 1, none⟩ = some (.string a0_1) := (blk_cell BK173.out 1).trans rfl; have hcz20_2 : w19.cell? ⟨gb173, 2, none⟩ = some (.string a0_2) := (blk_cell BK173.out 2).trans rfl; have hcz20_3 : w19.cell? ⟨gb173, 3, none⟩ = some (.int .i64 a0_3) := (blk_cell BK173.out 3).trans rfl; have hfz20_0 := blk_frozen BK173.out 0; have hfz20_1 := blk_frozen BK173.out 1; have hfz20_2 := blk_frozen BK173.out 2; have hfz20_3 := blk_frozen BK173.out 3) | ((with_reducible refine gate_callee (f := 71) rfl ?_); refine goesL_ (some 7) rfl rfl Tryd.func71 (by kernel_rfl) rfl #[.string a0_0, .string a0_1] rfl (by (try simp only [List.map_toArray, List.map_cons, List.map_nil]); first | done | rfl | (simp only [List.length_drop, List.length_take]; rfl)) ?_; (with_reducible refine (bursarref13_named.calls k a0_0 a0_1 false _ A2.out).mono ?_); rintro e w21 ⟨rfl, hb⟩; refine ⟨_, rfl, ?_⟩; have n0_ := Aside0.mk (blk_below (g := gb173) (o := .cells #[.string a0_0, .string a0_1, .string a0_2, .int .i64 a0_3] 27 (0, 0)) (by (with_reducible repeat (first | refine blk_drewN ?_ _ | refine blk_drew ?_ | refine blk_alloc ?_ _)); exact BK173.out) hb); have n1_ := Aside0.mk (below_step (by repeat (first | (with_reducible first | exact HB.out | apply below_alloc | apply pw_below_drewN | apply below_drew1 | refine below_set ?_ GE173.out) | exact HB.out)) hb); clear BK173; clear HB; have BK173 := n0_; have HB := n1_; clear n0_ n1_; (try clear hb); (try clear hb2); (try clear hk); (try clear hi)))
    go_ret
    exact ⟨by first | rfl | (simp [errW_none, errW_some] <;> rfl) | (simp [*, errW_none, errW_some] <;> rfl), by repeat (first | (with_reducible first | exact HB.out | apply below_alloc | apply pw_below_drewN | apply below_drew1 | refine below_set ?_ GE173.out) | exact HB.out)⟩
end Go.Proofs.YtphddbijdfmpjaaDoor.Q
namespace Go.Proofs.YtphddbijdfmpjaaDoor.Q
open Go.RowKit Go.Proofs.YtphddbijdfmpjaaDoorW.PrintWords Go.Proofs.YtphddbijdfmpjaaDoorW.PrintLast Go.Proofs.YtphddbijdfmpjaaDoorW.PrintMore
attribute [local go_sem] max2_int min2_int max_two min_two max_three min_three max_four min_four   -- for this text's walks alone
set_option linter.unusedVariables false
set_option linter.unusedSimpArgs false
def bursarref13_judged.f (a0 : Bool) (a1 : ByteArray) : Option (Int) := if a0 = true then (if (a1.size : Int) > 8192 then (some 23) else (some 0)) else (some 130)
set_option maxHeartbeats 8000000 in
set_option maxRecDepth 100000 in
theorem bursarref13_judged.calls (a0 : Bool) (a1 : ByteArray) (r : Int) (w : World) (h : bursarref13_judged.f a0 a1 = some r) :
    Calls Tryd.prog 54 #[.bool a0, .string a1] w fun e w' => e = .returned (.int .i64 r) ∧ Drawn0 w w' := by
  have H : (if a0 = true then (if (a1.size : Int) > 8192 then (some 23) else (some 0)) else (some 130)) = some r := h
  clear h
  by_cases c3 : a0 = true
  · subst c3
    have H1 : (if (a1.size : Int) > 8192 then (some 23) else (some 0)) = some r := by rw [if_pos rfl] at H; exact H
    clear H
    have H := H1
    clear H1
    by_cases c4 : (a1.size : Int) > 8192
    · rw [if_pos c4] at H
      have c4b0 : decide (8192 < (a1.size : Int)) = true := decide_eq_true c4
      have c4b1 : decide (8192 < a1.size) = true := decide_eq_true (by omega)
      clear c4
      obtain rfl := Option.some.inj H
      go_enter Tryd.func54, Tryd.ntmps54
      go_wp2
      go_ret
      exact ⟨by first | rfl | (simp; done) | (simp [*]; done), by repeat (first | exact Drawn0.refl _ | apply Drawn0.step)⟩
    · rw [if_neg c4] at H
      have c4b0 : decide (8192 < (a1.size : Int)) = false := decide_eq_false c4
      have c4b1 : decide (8192 < a1.size) = false := decide_eq_false (by omega)
      clear c4
      obtain rfl := Option.some.inj H
      go_enter Tryd.func54, Tryd.ntmps54
      go_wp2
      go_ret
      exact ⟨by first | rfl | (simp; done) | (simp [*]; done), by repeat (first | exact Drawn0.refl _ | apply Drawn0.step)⟩
  · replace c3 := Bool.eq_false_iff.mpr c3
    subst c3
    have H1 : (some 130) = some r := by rw [if_neg (show ¬ (false = true) by decide)] at H; exact H
    clear H
    have H := H1
    clear H1
    obtain rfl := Option.some.inj H
    go_enter Tryd.func54, Tryd.ntmps54
    go_wp2
    go_ret
    exact ⟨by first | rfl | (simp; done) | (simp [*]; done), by repeat (first | exact Drawn0.refl _ | apply Drawn0.step)⟩
end Go.Proofs.YtphddbijdfmpjaaDoor.Q
namespace Go.Proofs.YtphddbijdfmpjaaDoor.Q
open Go.RowKit Go.Proofs.YtphddbijdfmpjaaDoorW.PrintWords Go.Proofs.YtphddbijdfmpjaaDoorW.PrintLast Go.Proofs.YtphddbijdfmpjaaDoorW.PrintMore
attribute [local go_sem] max2_int min2_int max_two min_two max_three min_three max_four min_four   -- for this text's walks alone
set_option linter.unusedVariables false
set_option linter.unusedSimpArgs false
def bursarref13_ValidBinding.f (k : Nat) (a0_0 : ByteArray) (a0_1 : ByteArray) (a0_2 : ByteArray) (a0_3 : Int) : Option (Int) := (bursarref13_FormedBinding.f k a0_0 a0_1 a0_2 a0_3).bind fun t177 => ((bursarref13_judged.f t177 (⟨#[]⟩ : ByteArray)).bind fun t178 => (some t178))
theorem bursarref13_ValidBinding.mono : ∀ a0 a1 a2 a3 k, LeO (bursarref13_ValidBinding.f k a0 a1 a2 a3) (bursarref13_ValidBinding.f (k + 1) a0 a1 a2 a3) := by
  intro a0 a1 a2 a3 k
  unfold bursarref13_ValidBinding.f
  repeat' first
      | (with_reducible exact bursarref13_FormedBinding.mono _ _ _ _ _)
      | (with_reducible exact LeO.refl _)
      | (with_reducible exact LeO.none _)
      | (with_reducible refine LeO.ite ?_ ?_)
      | (with_reducible refine LeO.bind ?_ (fun _ => ?_))
      | exact bursarref13_FormedBinding.mono _ _ _ _ _
      | exact LeO.none _
      | refine LeO.ite ?_ ?_
      | refine LeO.bind ?_ (fun _ => ?_)
set_option maxHeartbeats 8000000 in
set_option maxRecDepth 100000 in
theorem bursarref13_ValidBinding.calls (k : Nat) (a0_0 : ByteArray) (a0_1 : ByteArray) (a0_2 : ByteArray) (a0_3 : Int) (r : Int) (w : World) (h : bursarref13_ValidBinding.f k a0_0 a0_1 a0_2 a0_3 = some r) :
    Calls Tryd.prog 35 #[.agg #[.string a0_0, .string a0_1, .string a0_2, .int .i64 a0_3]] w fun e w' => e = .returned (.int .i64 r) ∧ Below w.heap.size w w' := by
  have hu27 := Tryd.underlying27
  have HB := Aside0.mk (Below.refl w.heap.size w)
  have H : ((bursarref13_FormedBinding.f k a0_0 a0_1 a0_2 a0_3).bind fun t177 => ((bursarref13_judged.f t177 (⟨#[]⟩ : ByteArray)).bind fun t178 => (some t178))) = some r := h
  clear h
  replace H := Option.bind_eq_some_iff.mp H
  obtain ⟨t177, A20, H⟩ := H
  replace H : ((bursarref13_judged.f t177 (⟨#[]⟩ : ByteArray)).bind fun t178 => (some t178)) = some r := H
  have A2 := Aside0.mk A20
  clear A20
  replace H := Option.bind_eq_some_iff.mp H
  obtain ⟨t178, A30, H⟩ := H
  replace H : (some t178) = some r := H
  have A3 := Aside0.mk A30
  clear A30
  obtain rfl := Option.some.inj H
  go_enter Tryd.func35, Tryd.ntmps35
  go_wp2_with (first | ((with_reducible refine gate_dst (N := 1) rfl ?_); refine box_event ?hg (N := 1) ?hd (cs := #[.string a0_0, .string a0_1, .string a0_2, .int .i64 a0_3]) (t := 27) ?hr ?_; (case hd => rfl); (case hg => rfl); (case hr => first | (go_simp; done) | (go_simp; rfl)); intro gb176 hg w4 hbox hb; have n0_ := Aside0.mk (below_step (by repeat (first | (with_reducible first | exact HB.out | apply below_alloc | apply pw_below_drewN | apply below_drew1) | exact HB.out)) hb); have n1_ := Aside0.mk (hbox); have n2_ := Aside0.mk ((by rw [hg]; exact (below_size (by repeat (first | (with_reducible first | exact HB.out | apply below_alloc | apply pw_below_drewN | apply below_drew1) | exact HB.out))) : w.heap.size ≤ gb176)); have n3_ := Aside0.mk ((by rw [hg]; exact (below_size (by repeat (first | (with_reducible first | exact HB.out | apply below_alloc | apply pw_below_drewN | apply below_drew1) | exact HB.out))) : w.heap.size ≤ gb176)); clear HB; have HB := n0_; have BK176 := n1_; have GW176 := n2_; have GE176 := n3_; clear n0_ n1_ n2_ n3_; clear hb hbox hg; have hcz5_0 : w4.cell? ⟨gb176, 0, none⟩ = some (.string a0_0) := (blk_cell BK176.out 0).trans rfl; have hcz5_1 : w4.cell? ⟨gb176, 1, none⟩ = some (.string a0_1) := (blk_cell BK176.out 1).trans rfl; have hcz5_2 : w4.cell? ⟨gb176, 2, none⟩ = some (.string a0_2) := (blk_cell BK176.out 2).trans rfl; have hcz5_3 : w4.cell? ⟨gb176, 3, none⟩ = some (.int .i64 a0_3) := (blk_cell BK176.out 3).trans rfl; have hfz5_0 := blk_frozen BK176.out 0; have hfz5_1 := blk_frozen BK176.out 1; have hfz5_2 := blk_frozen BK176.out 2; have hfz5_3 := blk_frozen BK176.out 3) | ((with_reducible refine gate_callee (f := 53) rfl ?_); refine goesL_ (some 5) rfl rfl Tryd.func53 (by kernel_rfl) rfl #[.agg #[.string a0_0, .string a0_1, .string a0_2, .int .i64 a0_3]] rfl (by (try simp only [List.map_toArray, List.map_cons, List.map_nil]); first | done | rfl | (simp only [List.length_drop, List.length_take]; rfl)) ?_; (with_reducible refine (bursarref13_FormedBinding.calls k a0_0 a0_1 a0_2 a0_3 t177 _ A2.out).mono ?_); rintro e w6 ⟨rfl, hb⟩; refine ⟨_, rfl, ?_⟩; have n0_ := Aside0.mk (blk_below (g := gb176) (o := .cells #[.string a0_0, .string a0_1, .string a0_2, .int .i64 a0_3] 27 (0, 0)) (by (with_reducible repeat (first | refine blk_drewN ?_ _ | refine blk_drew ?_ | refine blk_alloc ?_ _)); exact BK176.out) hb); have n1_ := Aside0.mk (below_step (by repeat (first | (with_reducible first | exact HB.out | apply below_alloc | apply pw_below_drewN | apply below_drew1 | refine below_set ?_ GE176.out) | exact HB.out)) hb); clear BK176; clear HB; have BK176 := n0_; have HB := n1_; clear n0_ n1_; (try clear hb); (try clear hb2); (try clear hk); (try clear hi)) | ((with_reducible refine gate_callee (f := 54) rfl ?_); refine goesL_ (some 7) rfl rfl Tryd.func54 (by kernel_rfl) rfl #[.bool t177, .string (⟨#[]⟩ : ByteArray)] rfl (by (try simp only [List.map_toArray, List.map_cons, List.map_nil]); first | done | rfl | (simp only [List.length_drop, List.length_take]; rfl)) ?_; (with_reducible refine (bursarref13_judged.calls t177 (⟨#[]⟩ : ByteArray) t178 _ A3.out).mono ?_); rintro e w' ⟨rfl, ⟨nd, rfl⟩⟩; refine ⟨_, rfl, ?_⟩))
  go_ret
  exact ⟨by first | rfl | (simp [errW_none, errW_some] <;> rfl) | (simp [*, errW_none, errW_some] <;> rfl), by repeat (first | (with_reducible first | exact HB.out | apply below_alloc | apply pw_below_drewN | apply below_drew1 | refine below_set ?_ GE176.out) | exact HB.out)⟩
end Go.Proofs.YtphddbijdfmpjaaDoor.Q
namespace Go.Proofs.YtphddbijdfmpjaaDoor.Q
open Go.RowKit Go.MapRaw Go.Proofs.YtphddbijdfmpjaaDoorW.PrintWords Go.Proofs.YtphddbijdfmpjaaDoorW.PrintLast Go.Proofs.YtphddbijdfmpjaaDoor.Wr Go.Proofs.YtphddbijdfmpjaaDoor.Pl
set_option linter.unusedVariables false
set_option linter.unusedSimpArgs false
theorem aheadloop (x y : List ByteArray) (hx : x.length ≤ 1000000) (d : Nat) : ∀ i : Nat, i + d = x.length → i ≤ y.length → Ev (fun k => bursarref17_Ahead.l0 k x y (i : Int)) (decide (cmpL (x.drop i) (y.drop i) < 0)) := by
  induction d with
  | zero =>
    intro i hi hy
    rw [List.drop_of_length_le (by omega)]
    have e : decide (cmpL [] (y.drop i) < 0) = decide ((x.length : Int) < (y.length : Int)) := by
      by_cases h : i < y.length
      · rw [List.drop_eq_getElem_cons h]
        rw [decide_eq_decide]
        exact ⟨fun _ => by omega, fun _ => by show (-1 : Int) < 0; omega⟩
      · rw [List.drop_of_length_le (by omega), decide_eq_decide]
        exact ⟨fun h => absurd h (by show ¬ (0 : Int) < 0; omega), fun h => by omega⟩
    rw [e]
    refine ⟨2, fun k hk => ?_⟩
    obtain ⟨k0, rfl⟩ : ∃ k0, k = k0 + 1 + 1 := ⟨k - 2, by omega⟩
    show bursarref17_Ahead.l0 (k0 + 1 + 1) x y (i : Int) = _
    simp only [bursarref17_Ahead.l0]
    rw [if_neg (by omega)]
    simp [bursarref17_Ahead.j1]
  | succ d ih =>
    intro i hi hy
    have hlt : i < x.length := by omega
    by_cases h : i < y.length
    · rw [List.drop_eq_getElem_cons hlt, List.drop_eq_getElem_cons h]
      have hst : ∀ k, bursarref17_Ahead.l0 (k + 1 + 1) x y (i : Int) = if x[i] = y[i] then bursarref17_Ahead.l0 k x y ((i + 1 : Nat) : Int) else some (Op.bytesLess x[i].toList y[i].toList) := by
        intro k
        simp only [bursarref17_Ahead.l0]
        rw [if_pos (by omega), show decide ((i : Int) < (y.length : Int)) = true from decide_eq_true (by omega)]
        simp only [bursarref17_Ahead.j1]
        rw [if_pos trivial, if_pos (by omega), if_pos (by omega), if_pos (by omega), rd_at x i hlt, rd_at y i h, w64 i (by omega)]
        by_cases e : x[i] = y[i]
        · rw [if_pos (by rw [e]), if_pos e]
        · rw [if_neg (fun h => e ((ba_iff _ _).1 h)), if_neg e]
      by_cases e : x[i] = y[i]
      · obtain ⟨K, hK⟩ := ih (i + 1) (by omega) (by omega)
        refine ⟨K + 2, fun k hk => ?_⟩
        obtain ⟨k0, rfl⟩ : ∃ k0, k = k0 + 1 + 1 := ⟨k - 2, by omega⟩
        show bursarref17_Ahead.l0 (k0 + 1 + 1) x y (i : Int) = _
        rw [hst k0, if_pos e]
        have h1 : cmpL (x[i] :: x.drop (i + 1)) (y[i] :: y.drop (i + 1)) = cmpL (x.drop (i + 1)) (y.drop (i + 1)) := by
          show (if cmpS x[i] y[i] ≠ 0 then cmpS x[i] y[i] else _) = _
          rw [e, if_neg (by rw [ordS.self]; decide)]
        rw [h1]
        exact hK k0 (by omega)
      · refine ⟨2, fun k hk => ?_⟩
        obtain ⟨k0, rfl⟩ : ∃ k0, k = k0 + 1 + 1 := ⟨k - 2, by omega⟩
        show bursarref17_Ahead.l0 (k0 + 1 + 1) x y (i : Int) = _
        rw [hst k0, if_neg e]
        have h1 : cmpL (x[i] :: x.drop (i + 1)) (y[i] :: y.drop (i + 1)) = cmpS x[i] y[i] := by
          show (if cmpS x[i] y[i] ≠ 0 then cmpS x[i] y[i] else _) = _
          rw [if_pos (fun h => e (cmpS_zero h))]
        rw [h1]
        congr 1
        rw [Bool.eq_iff_iff, decide_eq_true_eq, cmpS_lt]
    · rw [List.drop_eq_getElem_cons hlt, List.drop_of_length_le (show y.length ≤ i by omega)]
      refine ⟨2, fun k hk => ?_⟩
      obtain ⟨k0, rfl⟩ : ∃ k0, k = k0 + 1 + 1 := ⟨k - 2, by omega⟩
      show bursarref17_Ahead.l0 (k0 + 1 + 1) x y (i : Int) = _
      simp only [bursarref17_Ahead.l0]
      rw [if_pos (by omega), show decide ((i : Int) < (y.length : Int)) = false from decide_eq_false (by omega)]
      simp only [bursarref17_Ahead.j1]
      rw [if_neg (by decide)]
      congr 1
      rw [decide_eq_decide]
      exact ⟨fun h => by omega, fun h => absurd h (by show ¬ (1 : Int) < 0; omega)⟩
theorem aheadP_ev (a b : ByteArray) (ha : a.size ≤ 1048576) (hb : b.size ≤ 1048576) : Ev (fun k => bursarref17_Ahead.f k a b) (aheadP a b) := by
  have hl : (splitS a).1.length ≤ 1000000 := by
    rcases path_cases a with ⟨ns, h, e⟩ | ⟨_, e⟩
    · rw [e]; have := h.most; simp; omega
    · rw [e]; simp
  have h := aheadloop (splitS a).1 (splitS b).1 hl (splitS a).1.length 0 (by omega) (by omega)
  rw [List.drop_zero, List.drop_zero] at h
  exact Ev.bind (refSplit_ev a ha) (Ev.bind (refSplit_ev b hb) h)
theorem ahead_ok (a b : ByteArray) (w : World) (ha : a.size ≤ 1048576) (hb : b.size ≤ 1048576) : Calls Tryd.prog 55 #[.string a, .string b] w fun e w' => e = .returned (.bool (aheadP a b)) ∧ Below w.heap.size w w' := by
  obtain ⟨K, hK⟩ := aheadP_ev a b ha hb
  exact bursarref17_Ahead.calls K _ _ _ w (hK K (Nat.le_refl _))
theorem rvalid_ev (b : Bnd) (hb : b.path.size ≤ 1048576) : ∃ k, bursarref13_ValidBinding.f k b.path b.name b.subject b.verb = some (if formedB b = true then 0 else 130) := by
  obtain ⟨K1, h1⟩ := refSplit_ev b.path hb
  obtain ⟨K2, h2⟩ := name_ev b.name
  obtain ⟨K3, h3⟩ := name_ev b.subject
  refine ⟨K1 + K2 + K3, ?_⟩
  have h1 : bursarref04_Split.f (K1 + K2 + K3) b.path = _ := h1 _ (by omega)
  have h2 : bursarref04_Name.f (K1 + K2 + K3) b.name = _ := h2 _ (by omega)
  have h3 : bursarref04_Name.f (K1 + K2 + K3) b.subject = _ := h3 _ (by omega)
  have hp : bursarref04_Path.f (K1 + K2 + K3) b.path = some (pathS b.path) := by unfold bursarref04_Path.f; rw [h1]; rfl
  unfold bursarref13_ValidBinding.f bursarref13_FormedBinding.f bursarref13_named.f
  rw [hp, h2, h3]
  simp only [Option.bind_some]
  unfold formedB
  have hj : ∀ q : Bool, bursarref13_judged.f q ⟨#[]⟩ = some (if q = true then 0 else 130) := by intro q; cases q <;> rfl
  by_cases e1 : pathS b.path = 0
  · rw [if_pos e1]
    simp only [Option.bind_some, e1]
    cases nameB b.name <;> cases nameB b.subject <;> by_cases e2 : b.verb ≥ 0 <;> simp [hj, e2]
  · rw [if_neg e1]
    simp [e1, hj]
theorem rvalid_ok (b : Bnd) (w : World) (hb : b.path.size ≤ 1048576) : Calls Tryd.prog 35 #[eV b] w fun e w' => e = .returned (.int .i64 (if formedB b = true then 0 else 130)) ∧ Below w.heap.size w w' := by
  obtain ⟨K, hK⟩ := rvalid_ev b hb
  exact bursarref13_ValidBinding.calls K _ _ _ _ _ w hK
end Go.Proofs.YtphddbijdfmpjaaDoor.Q
namespace Go.Proofs.YtphddbijdfmpjaaDoor.Q
end Go.Proofs.YtphddbijdfmpjaaDoor.Q
namespace Go.Proofs.YtphddbijdfmpjaaDoor.Q
open Go.RowKit Go.MapRaw Go.Proofs.YtphddbijdfmpjaaDoorW.PrintWords Go.Proofs.YtphddbijdfmpjaaDoorW.PrintLast Go.Proofs.YtphddbijdfmpjaaDoor.Wr
set_option linter.unusedVariables false
set_option linter.unusedSimpArgs false
theorem parkR_ {p : Prop} (h : Aside0 p) : p := h.out
structure RT (w : World) (r base : Nat) (v : Value) (L : List Bnd) : Prop where
  blk : w.heap[r]? = some (.cells #[v] 79 (0, 0))
  row : Kd.R k27 27 w base (fun k => k ≠ r) v L
theorem RT.below {w w' : World} {r base : Nat} {v : Value} {L : List Bnd} (h : RT w r base v L) (hb : Below w.heap.size w w') : RT w' r base v L := ⟨blk_below h.blk hb, Kd.R_below h.row hb⟩
theorem RT.lt {w : World} {r base : Nat} {v : Value} {L : List Bnd} (h : RT w r base v L) : r < w.heap.size := blk_lt h.blk
theorem rnew_ok (w : World) : Calls Tryd.prog 34 #[] w fun e w' => ∃ r, e = .returned (.pointer (some ⟨r, 0, none⟩)) ∧ RT w' r w.heap.size (.slice none 0 0) [] ∧ w.heap.size ≤ r ∧ Below w.heap.size w w' := by
  have hu79 := Tryd.underlying79
  have hz := Tryd.zeroValue79
  go_enter Tryd.func34, Tryd.ntmps34
  go_wp2
  go_ret
  exact ⟨_, rfl, ⟨blk_new w _, Kd.R_nil _ _ _ _ _⟩, Nat.le_refl _, (Below.refl _ _).alloc (Nat.le_refl _) _⟩
set_option maxRecDepth 100000 in
set_option maxHeartbeats 16000000 in
theorem rat_ok (w : World) (r base : Nat) (v : Value) (L : List Bnd) (q n : ByteArray) (hT : RT w r base v L) (hL : L.length ≤ 2513169434843) :
    Calls Tryd.prog 36 #[.pointer (some ⟨r, 0, none⟩), .string q, .string n] w fun e w' => e = .returned (.int .i64 (idxB q n 0 L)) ∧ w' = w := by
  have hu79 := Tryd.underlying79
  have hu27 := Tryd.underlying27
  obtain ⟨A, c, rfl⟩ := Kd.R_slice hT.row
  have hcell := (blk_cell hT.blk 0).trans rfl
  have HR := Aside0.mk (Kd.R_reads' hT.row).2.2
  have HLL := Lib.hid hL
  clear hT hL
  obtain ⟨res, hres⟩ : ∃ res, res = idxB q n 0 L := ⟨_, rfl⟩
  rw [← hres]
  have HRES := Lib.hid hres
  clear hres
  go_enter Tryd.func36, Tryd.ntmps36
  go_upto_region 2 with fail
  go_loopg [7] L.length (fun g v7 wr => ∃ (i : Nat), v7 = .int .i64 (i : Int) ∧ Aside0 (i + g = L.length) ∧ Aside0 (idxB q n i (L.drop i) = res) ∧ wr = w)
  case atStart => exact ⟨0, rfl, ⟨by omega⟩, ⟨by rw [List.drop_zero]; exact HRES.out.symm⟩, rfl⟩
  case round =>
    obtain ⟨i, rfl, HI, HS, rfl⟩ := hrel
    by_cases hi : i < L.length
    rotate_left
    · have q1 : decide ((i : Int) < (L.length : Int)) = false := decide_eq_false (by omega)
      have q1n : decide (i < L.length) = false := decide_eq_false hi
      have HD := Lib.hid (show L.drop i = [] from List.drop_of_length_le (by omega))
      clear hi
      go_wp2
      go_ret
      exact ⟨by rw [← HS.out, HD.out] <;> rfl, rfl⟩
    have q1 : decide ((i : Int) < (L.length : Int)) = true := decide_eq_true (by omega)
    have q1n : decide (i < L.length) = true := decide_eq_true hi
    have p1 : (0 ≤ (i : Int)) = True := eq_true (by omega)
    have p2 : ((i : Int) < (L.length : Int)) = True := eq_true (by omega)
    obtain ⟨ad, hA, hx0, hx⟩ := bnd_at HR.out i hi
    cases hA
    have HDX := Lib.hid (List.drop_eq_getElem_cons hi)
    obtain ⟨g0, rfl⟩ : ∃ g0, gk = g0 + 1 := ⟨gk - 1, by have := HI.out; omega⟩
    have HLT := Lib.hid hi
    generalize L[i] = xx at hx0 hx HDX
    obtain ⟨xp, xn, xs, xv⟩ := xx
    have hx1 := hx 1 (.string xn) (by decide) rfl
    clear hi hx
    have HST := Lib.hid (show idxB q n i (L.drop i) = if xp = q ∧ xn = n then (i : Int) else idxB q n (i + 1) (L.drop (i + 1)) by rw [HDX.out]; rfl)
    by_cases hp : xp = q
    · have e1 : (xp.toList == q.toList) = true := by rw [hp]; simp
      by_cases hn : xn = n
      · have e2 : (xn.toList == n.toList) = true := by rw [hn]; simp
        have HE := Lib.hid (And.intro hp hn)
        clear hp hn
        go_wp2
        go_ret
        exact ⟨by rw [← HS.out, HST.out, if_pos HE.out] <;> rfl, rfl⟩
      · have e2 : (xn.toList == n.toList) = false := by rw [toList_beq, Bool.eq_false_iff, Ne, ba_beq]; exact hn
        have HE := Lib.hid (show ¬ (xp = q ∧ xn = n) from fun h => hn h.2)
        clear hp hn
        go_wp2
        go_roundg g0
        case measure => omega
        case rel => exact ⟨i + 1, congrArg (Value.int .i64) (by rw [w64 i (by have := HLT.out; have := HLL.out; omega)]), ⟨by have := HI.out; omega⟩, ⟨by rw [← HS.out, HST.out, if_neg HE.out]⟩, rfl⟩
    · have e1 : (xp.toList == q.toList) = false := by rw [toList_beq, Bool.eq_false_iff, Ne, ba_beq]; exact hp
      have HE := Lib.hid (show ¬ (xp = q ∧ xn = n) from fun h => hp h.1)
      clear hp
      go_wp2
      go_roundg g0
      case measure => omega
      case rel => exact ⟨i + 1, congrArg (Value.int .i64) (by rw [w64 i (by have := HLT.out; have := HLL.out; omega)]), ⟨by have := HI.out; omega⟩, ⟨by rw [← HS.out, HST.out, if_neg HE.out]⟩, rfl⟩
set_option maxRecDepth 100000 in
set_option maxHeartbeats 16000000 in
theorem rlist_ok (w : World) (r base : Nat) (v : Value) (L : List Bnd) (hT : RT w r base v L) (hL : L.length ≤ 2513169434843) :
    Calls Tryd.prog 18 #[.pointer (some ⟨r, 0, none⟩)] w fun e w' => ∃ v', e = .returned v' ∧ Kd.R k27 27 w' w.heap.size (fun _ => True) v' L ∧ Below w.heap.size w w' := by
  have hu79 := Tryd.underlying79
  have hu27 := Tryd.underlying27
  obtain ⟨A, c, rfl⟩ := Kd.R_slice hT.row
  have hcell := (blk_cell hT.blk 0).trans rfl
  have HR := Aside0.mk (Kd.R_reads' hT.row).2.2
  have HLL := Lib.hid hL
  clear hT hL
  go_enter Tryd.func18, Tryd.ntmps18
  go_upto_region 1 with fail
  go_wp2_with ((with_reducible refine gate_builtin (b := .append) (xs := #[.const (.slice none 0 0), .tmp 6]) rfl ?_); at_builtin; refine parkR_ ?_)
  refine Aside0.mk ?_
  refine Kd.R_append_rows k27 (Rr := k27.K w) (w0 := w) w.heap.size rfl (.const (.slice none 0 0)) (.tmp 6) 36 27 (.agg #[.string ⟨#[]⟩, .string ⟨#[]⟩, .string ⟨#[]⟩, .int .i64 0]) 56 rfl Tryd.underlying36 info27 rfl (by decide) (by omega) (.slice none 0 0) ([] : List Bnd) L A L.length c (fun _ => True) (fun _ => False) rfl rfl ?aO ?aR ?aK (fun _ h => h.elim) ?aF ?aB ?aS ?aL ?_
  (case aR => exact HR.out)
  (case aK => exact (fun x cs h => by rw [k27_cells h]; exact k27_mkM _ _ _ _))
  (case aB => exact Below.refl _ _)
  (case aF => exact (fun _ _ => trivial))
  (case aO => exact (Kd.R_nil _ _ _ _ (fun _ => True)))
  (case aS => exact Nat.le_refl _)
  (case aL => have := HLL.out; simp; omega)
  intro v2 w4 ho hb2 hg2 hat2
  rw [List.nil_append] at ho
  have O4 := Aside0.mk ho
  have B4 := Aside0.mk hb2
  clear ho hb2 hg2 hat2
  go_wp2
  go_ret
  exact ⟨_, rfl, O4.out, B4.out⟩
end Go.Proofs.YtphddbijdfmpjaaDoor.Q
