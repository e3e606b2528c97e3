/- What the statement AccessHoldsSixteenCardSaid rests on, part 4 of 4: walks and plain laws; what of the printer's words it leans on. -/
import Derived.Test.YtphddbijdfmpjaaDoorProg
import Derived.Test.YtphddbijdfmpjaaDoorRows
import Derived.Test.YtphddbijdfmpjaaDoorCards
import Derived.Test.YtphddbijdfmpjaaDoorTie
import Derived.Test.YtphddbijdfmpjaaDoorMAH3
import Derived.ProofKit
import Derived.Shelf.SlGeneric
import Derived.Shelf.SlSortCmp.WholeK
import Derived.Ground.SlsfProg
import Derived.Ground.NamesProg
import Derived.Shelf.SlSortCmp.NoneTotal
import Derived.Laws.BitsLemmas
import Derived.LaidSub
import Derived.Lib.LaidTab
import Derived.ChangeSame
import Derived.WalkKit
import Derived.OpenShut
import Derived.ShutString
import Derived.ChangeOld
import Derived.Below
import Derived.SizedLaws
import Derived.Deep.DeepHandedRow
import Derived.LaidMore
namespace Go.Proofs.YtphddbijdfmpjaaDoor.Wr
open Go.RowKit Go.MapRaw Go.Proofs.YtphddbijdfmpjaaDoorW.PrintWords Go.Proofs.YtphddbijdfmpjaaDoorW.PrintLast Go.Proofs.YtphddbijdfmpjaaDoor.Q
open Go.ChangeMaps (setBlock)
set_option linter.unusedVariables false
set_option linter.unusedSimpArgs false
structure Off (b : Nat) (w w' : World) : Prop where
  os : w'.os = w.os
  tape : w'.tape = w.tape
  output : w'.output = w.output
  size : w.heap.size ≤ w'.heap.size
  block : ∀ k, k < w.heap.size → k ≠ b → w'.heap[k]? = w.heap[k]?
theorem Off.refl (b : Nat) (w : World) : Off b w w := ⟨rfl, rfl, rfl, Nat.le_refl _, fun _ _ _ => rfl⟩
theorem Off.trans {b : Nat} {u v w : World} (h : Off b u v) (k : Off b v w) : Off b u w :=
  ⟨k.os.trans h.os, k.tape.trans h.tape, k.output.trans h.output, Nat.le_trans h.size k.size, fun i hi hn => (k.block i (Nat.lt_of_lt_of_le hi h.size) hn).trans (h.block i hi hn)⟩
theorem Off.of_below {b : Nat} {w w' : World} (h : Below w.heap.size w w') : Off b w w' := ⟨h.os, h.tape, h.output, h.size, fun k hk _ => h.block k hk⟩
theorem Off.below {b : Nat} {w w' : World} (h : Off b w w') (hb : w.heap.size ≤ b) : Below w.heap.size w w' := ⟨h.os, h.tape, h.output, h.size, fun k hk => h.block k hk (by omega)⟩
theorem Off.belowB {B b : Nat} {w w' : World} (h : Off b w w') (hb : B ≤ b) (hB : B ≤ w.heap.size) : Below B w w' := ⟨h.os, h.tape, h.output, h.size, fun k hk => h.block k (by omega) (by omega)⟩
theorem Off.set (b : Nat) (w : World) (o : Obj) : Off b w (setBlock w b o) := ⟨rfl, rfl, rfl, by rw [set_size]; exact Nat.le_refl _, fun k _ hk => set_far _ _ _ _ hk⟩
structure TB (w : World) (t b : Nat) (M : Tab) : Prop where
  at_ : w.heap[t]? = some (.cells #[.map (some b)] 68 (0, 0))
  ne : t ≠ b
  holds : Holds eK eV w b M
  nodup : (M.map (·.1)).Nodup
  fits : ∀ p ∈ M, p.1 = (p.2.path, p.2.name) ∧ formedB p.2 = true
theorem TB.below {w w' : World} {t b : Nat} {M : Tab} (h : TB w t b M) (hb : Below w.heap.size w w') : TB w' t b M :=
  ⟨blk_below h.at_ hb, h.ne, Holds_move h.holds (hb.block _ (Holds_lt h.holds)), h.nodup, h.fits⟩
theorem TB.cell {w : World} {t b : Nat} {M : Tab} (h : TB w t b M) : w.cell? ⟨t, 0, none⟩ = some (.map (some b)) := (blk_cell h.at_ 0).trans rfl
theorem TB.off {w w' : World} {t b : Nat} {M M' : Tab} (h : TB w t b M) (ho : Off b w w') (hH : Holds eK eV w' b M') (hn : (M'.map (·.1)).Nodup) (hf : ∀ p ∈ M', p.1 = (p.2.path, p.2.name) ∧ formedB p.2 = true) : TB w' t b M' :=
  ⟨(ho.block _ (blk_lt h.at_) h.ne).trans h.at_, h.ne, hH, hn, hf⟩
theorem TB.belowB {B : Nat} {w w' : World} {t b : Nat} {M : Tab} (h : TB w t b M) (hb : Below B w w') (ht : t < B) (hb' : b < B) : TB w' t b M :=
  ⟨(hb.block t ht).trans h.at_, h.ne, Holds_move h.holds (hb.block b hb'), h.nodup, h.fits⟩
theorem TB.lt {w : World} {t b : Nat} {M : Tab} (h : TB w t b M) : t < w.heap.size ∧ b < w.heap.size := ⟨blk_lt h.at_, Holds_lt h.holds⟩
set_option maxHeartbeats 4000000 in
theorem newT_ok (w : World) : Calls Tryd.prog 29 #[] w fun e w' => ∃ t b, e = .returned (.pointer (some ⟨t, 0, none⟩)) ∧ TB w' t b [] ∧ w.heap.size ≤ t ∧ w.heap.size ≤ b ∧ Below w.heap.size w w' := by
  have hu66 := Tryd.underlying66
  have hmk : (Instr.makeMap 66 none).run Tryd.prog w = .ok (.map (some w.heap.size)) (w.alloc (.map #[] 0)) := rfl
  go_enter Tryd.func29, Tryd.ntmps29
  go_wp2
  go_ret
  have hs : (w.alloc (.map #[] 0)).heap.size = w.heap.size + 1 := by simp
  have hb0 : (w.alloc (.map #[] 0)).heap[w.heap.size]? = some (.map #[] 0) := heap_alloc_new w _
  have h1 := heap_alloc_new (w.alloc (.map #[] 0)) (.cells #[.map (some w.heap.size)] 68)
  rw [hs] at h1
  refine ⟨_, w.heap.size, rfl, ⟨h1, ?_, ⟨#[], 0, (heap_alloc_old _ _ (by rw [hs]; omega)).trans hb0, ⟨rfl, by simp, by simp⟩⟩, by simp, by simp⟩, ?_, Nat.le_refl _, ((Below.refl _ _).alloc (Nat.le_refl _) _).alloc ?_ _⟩
  all_goals (first | omega | (rw [hs]; omega))
end Go.Proofs.YtphddbijdfmpjaaDoor.Wr
namespace Go.Proofs.YtphddbijdfmpjaaDoor.Wr
open Go.RowKit Go.MapRaw Go.Proofs.YtphddbijdfmpjaaDoorW.PrintWords Go.Proofs.YtphddbijdfmpjaaDoorW.PrintLast Go.Proofs.YtphddbijdfmpjaaDoor.Q
open Go.ChangeMaps (setBlock)
set_option linter.unusedVariables false
set_option linter.unusedSimpArgs false
def setE (M : Tab) (b : Bnd) : Int := if formedB b = true then (if (getA (b.path, b.name) M).isNone = true ∧ 16 ≤ cnt b.path M then 194 else 0) else 130
def setM (M : Tab) (b : Bnd) : Tab := if setE M b = 0 then putA (b.path, b.name) b M else M
theorem put_mem {k : Key} {v : Bnd} {x : Key × Bnd} : ∀ {M : Tab}, x ∈ putA k v M → x = (k, v) ∨ x ∈ M
  | [], h => by simp [putA] at h; exact .inl h
  | p :: r, h => by
    unfold putA at h
    by_cases e : p.1 = k
    · rw [if_pos e] at h
      rcases List.mem_cons.1 h with h | h
      · exact .inl h
      · exact .inr (List.mem_cons_of_mem _ h)
    · rw [if_neg e] at h
      rcases List.mem_cons.1 h with h | h
      · exact .inr (by rw [h]; exact List.mem_cons_self)
      · exact (put_mem h).elim .inl fun h => .inr (List.mem_cons_of_mem _ h)
theorem setM_nodup {M : Tab} (b : Bnd) (h : (M.map (·.1)).Nodup) : ((setM M b).map (·.1)).Nodup := by
  unfold setM
  split
  · exact nodup_put _ _ M h
  · exact h
theorem setM_fits {M : Tab} (b : Bnd) (h : ∀ p ∈ M, p.1 = (p.2.path, p.2.name) ∧ formedB p.2 = true) : ∀ p ∈ setM M b, p.1 = (p.2.path, p.2.name) ∧ formedB p.2 = true := by
  unfold setM
  split
  · rename_i h0
    intro p hp
    rcases put_mem hp with rfl | hp
    · refine ⟨rfl, ?_⟩
      by_cases hf : formedB b = true
      · exact hf
      · unfold setE at h0; rw [if_neg hf] at h0; cases h0
    · exact h p hp
  · exact h
set_option maxRecDepth 100000 in
set_option maxHeartbeats 8000000 in
theorem set_ok (w : World) (t b : Nat) (M : Tab) (bd : Bnd) (hT : TB w t b M) (hG : Glob w) (hM : M.length ≤ 1000000) :
    Calls Tryd.prog 20 #[.pointer (some ⟨t, 0, none⟩), eV bd] w fun e w' => e = .returned (.int .i64 (setE M bd)) ∧ TB w' t b (setM M bd) ∧ Off b w w' := by
  obtain ⟨bp, bn, bs, bv⟩ := bd
  have hu27 := Tryd.underlying27
  have hu70 := Tryd.underlying70
  have key := valid_ok ⟨bp, bn, bs, bv⟩
  have hsl := setM_nodup (M := M) ⟨bp, bn, bs, bv⟩ hT.nodup
  have hsf := setM_fits (M := M) ⟨bp, bn, bs, bv⟩ hT.fits
  by_cases hf : formedB ⟨bp, bn, bs, bv⟩ = true
  · rw [if_pos hf] at key
    have hE : setE M ⟨bp, bn, bs, bv⟩ = if (getA (bp, bn) M).isNone = true ∧ 16 ≤ cnt bp M then 194 else 0 := by unfold setE; rw [if_pos hf]
    unfold eV at key ⊢
    have KEY := Lib.hid key
    have hal := (Below.refl w.heap.size w).alloc (Nat.le_refl _) (.cells #[.string bp, .string bn, .string bs, .int .i64 bv] 27)
    have hnew := blk_new w (.cells #[.string bp, .string bn, .string bs, .int .i64 bv] 27)
    have hG1 := Glob.below hG hal
    have hT1 := TB.below hT hal
    have AL := Lib.hid hal
    have NW := Lib.hid hnew
    have GL := Lib.hid hG1
    have TL := Lib.hid hT1
    have HE := Lib.hid hE
    have HM := Lib.hid hM
    have HSL := Lib.hid hsl
    have HSF := Lib.hid hsf
    clear key hG1 hal hnew hG hT1 hT hE hM hsl hsf hf
    go_enter Tryd.func20, Tryd.ntmps20
    go_upto_region 1 with fail
    generalize w.alloc _ = w1 at AL NW GL TL ⊢
    have hd0 := (blk_cell NW.out 0).trans rfl
    have hd1 := (blk_cell NW.out 1).trans rfl
    have hd2 := (blk_cell NW.out 2).trans rfl
    have hd3 := (blk_cell NW.out 3).trans rfl
    go_upto_region 4 with (go_at_call 33; refine (KEY.out _ GL.out).mono ?_; rintro e w2 ⟨rfl, hb2⟩; have B2 := Lib.hid (AL.out.trans (below_lower hb2 AL.out.size)); have N2 := Lib.hid (blk_below NW.out hb2); have T2 := Lib.hid (TB.below TL.out hb2); have he0 := (blk_cell N2.out 0).trans rfl; have he1 := (blk_cell N2.out 1).trans rfl; have he2 := (blk_cell N2.out 2).trans rfl; have he3 := (blk_cell N2.out 3).trans rfl; clear hb2)
    have hal3 := B2.out.alloc (Nat.le_trans (Nat.le_refl _) B2.out.size) (.cells #[.string bp, .string bn] 70)
    have hb3 := (Below.refl w2.heap.size w2).alloc (Nat.le_refl _) (.cells #[.string bp, .string bn] 70)
    have hT3 := TB.below T2.out hb3
    have hN3 := blk_below N2.out hb3
    have hP3 := blk_new w2 (.cells #[.string bp, .string bn] 70)
    have AL3 := Lib.hid hal3
    have TL3 := Lib.hid hT3
    have NW3 := Lib.hid hN3
    have NP3 := Lib.hid hP3
    have HPP := Lib.hid B2.out.size
    obtain ⟨pp, hpp⟩ : ∃ pp, pp = w2.heap.size := ⟨_, rfl⟩
    rw [← hpp] at NP3 HPP ⊢
    clear hal3 hb3 hT3 hN3 hP3 hpp T2 N2 B2 AL TL NW GL
    generalize w2.alloc _ = w3 at AL3 TL3 NW3 NP3 ⊢
    clear hd0 hd1 hd2 hd3 he0 he1 he2 he3
    have hz := Tryd.zeroValue27 w3
    have hlk := fun w' (h : Holds eK eV w' b M) => h.lookup kind_pl (fun a => ⟨a, rfl⟩) eqPl_iff 66 27 Tryd.underlying66 (bp, bn) _ (Tryd.zeroValue27 w') true
    obtain ⟨c, hc⟩ : ∃ c : Bnd, ∀ w', Holds eK eV w' b M → (Instr.lookup 66 (.map (some b)) (.agg #[.string bp, .string bn]) true).run Tryd.prog w' = .ok (.tuple #[.agg #[.string c.path, .string c.name, .string c.subject, .int .i64 c.verb], .bool (getA (bp, bn) M).isSome]) w' := by
      refine ⟨(getA (bp, bn) M).getD ⟨⟨#[]⟩, ⟨#[]⟩, ⟨#[]⟩, 0⟩, fun w' h => (hlk w' h).trans ?_⟩
      cases getA (bp, bn) M <;> rfl
    obtain ⟨there, hth⟩ : ∃ x, x = (getA (bp, bn) M).isSome := ⟨_, rfl⟩
    rw [← hth] at hc
    have HC := Lib.hid hc
    have HTH := Lib.hid hth
    clear hz hlk hc hth
    obtain ⟨cp, cn, cs, cv⟩ := c
    refine start_ (n := 12) (S := fun w' => w'.cell? ⟨t, 0, none⟩ = some (.map (some b)) ∧ w'.cell? ⟨pp, 0, none⟩ = some (.string bp) ∧ w'.cell? ⟨pp, 1, none⟩ = some (.string bn) ∧ (Instr.lookup 66 (.map (some b)) (.agg #[.string bp, .string bn]) true).run Tryd.prog w' = .ok (.tuple #[.agg #[.string cp, .string cn, .string cs, .int .i64 cv], .bool there]) w') (ds := []) (bl 0 12) (by kernel_rfl) rfl rfl ⟨TL3.out.cell, (blk_cell NP3.out 0).trans rfl, (blk_cell NP3.out 1).trans rfl, HC.out _ (Holds_move TL3.out.holds rfl)⟩ (fun hHeld => ?_)
    have hwd := drew_below w3
    have hT4 := TB.below TL3.out hwd
    have hN4 := blk_below NW3.out hwd
    have hP4 := blk_below NP3.out hwd
    have hA4 := AL3.out.trans (below_lower hwd AL3.out.size)
    have T4 := Lib.hid hT4
    have N4 := Lib.hid hN4
    have P4 := Lib.hid hP4
    have A4 := Lib.hid hA4
    clear hwd hT4 hN4 hP4 hA4 TL3 NW3 NP3 AL3
    generalize w3.drew = wd at T4 N4 P4 A4 hHeld ⊢
    refine pure_ (i := 0) (N := some 17) (v := ?_) (a' := ?_) (bl 1 11) rfl rfl (by kernel_rfl) (fun _ _ _ h => h) (Or.inl ⟨by rfl, ?_⟩) ?_ ?_
    rotate_left
    · intro w'
      go_simp
      with_reducible rfl
    rotate_left
    · simp only [Act.put, List.setIfInBounds_toArray, List.set_cons_zero, List.set_cons_succ, i64_w, i32_w]
      rfl
    refine pure_ (i := 1) (N := some 18) (v := ?_) (a' := ?_) (bl 2 10) rfl rfl (by kernel_rfl) (fun _ _ _ h => h) (Or.inl ⟨by rfl, ?_⟩) ?_ ?_
    rotate_left
    · intro w'
      go_simp
      with_reducible rfl
    rotate_left
    · simp only [Act.put, List.setIfInBounds_toArray, List.set_cons_zero, List.set_cons_succ, i64_w, i32_w]
      rfl
    refine pure_ (i := 2) (N := some 19) (v := ?_) (a' := ?_) (bl 3 9) rfl rfl (by kernel_rfl) (fun _ _ _ h => h) (Or.inl ⟨by rfl, ?_⟩) ?_ ?_
    rotate_left
    · intro w'
      go_simp
      with_reducible rfl
    rotate_left
    · simp only [Act.put, List.setIfInBounds_toArray, List.set_cons_zero, List.set_cons_succ, i64_w, i32_w]
      rfl
    refine take_ (i := 3) (N := some 20) (v := ?_) (a' := ?_) (bl 4 8) rfl rfl (by kernel_rfl) (fun _ _ _ h => h) (Or.inl ⟨by rfl, ?_⟩) hHeld ?_ ?_
    rotate_left
    · rintro w' ⟨s0, s1, s2, s3⟩
      go_simp
      with_reducible rfl
    rotate_left
    · simp only [Act.put, List.setIfInBounds_toArray, List.set_cons_zero, List.set_cons_succ, i64_w, i32_w]
      rfl
    refine take_ (i := 4) (N := some 21) (v := ?_) (a' := ?_) (bl 5 7) rfl rfl (by kernel_rfl) (fun _ _ _ h => h) (Or.inl ⟨by rfl, ?_⟩) hHeld ?_ ?_
    rotate_left
    · rintro w' ⟨s0, s1, s2, s3⟩
      go_simp
      with_reducible rfl
    rotate_left
    · simp only [Act.put, List.setIfInBounds_toArray, List.set_cons_zero, List.set_cons_succ, i64_w, i32_w]
      rfl
    refine take_ (i := 5) (N := some 22) (v := ?_) (a' := ?_) (bl 6 6) rfl rfl (by kernel_rfl) (fun _ _ _ h => h) (Or.inl ⟨by rfl, ?_⟩) hHeld ?_ ?_
    rotate_left
    · rintro w' ⟨s0, s1, s2, s3⟩
      go_simp
      with_reducible rfl
    rotate_left
    · simp only [Act.put, List.setIfInBounds_toArray, List.set_cons_zero, List.set_cons_succ, i64_w, i32_w]
      rfl
    refine pure_ (i := 6) (N := some 16) (v := ?_) (a' := ?_) (bl 7 5) rfl rfl (by kernel_rfl) (fun _ _ _ h => h) (Or.inl ⟨by rfl, ?_⟩) ?_ ?_
    rotate_left
    · intro w'
      go_simp
      with_reducible rfl
    rotate_left
    · simp only [Act.put, List.setIfInBounds_toArray, List.set_cons_zero, List.set_cons_succ, i64_w, i32_w]
      rfl
    refine pure_ (i := 7) (N := some 23) (v := ?_) (a' := ?_) (bl 8 4) rfl rfl (by kernel_rfl) (fun _ _ _ h => h) (Or.inl ⟨by rfl, ?_⟩) ?_ ?_
    rotate_left
    · intro w'
      go_simp
      with_reducible rfl
    rotate_left
    · simp only [Act.put, List.setIfInBounds_toArray, List.set_cons_zero, List.set_cons_succ, i64_w, i32_w]
      rfl
    refine pure_ (i := 8) (N := some 24) (v := ?_) (a' := ?_) (bl 9 3) rfl rfl (by kernel_rfl) (fun _ _ _ h => h) (Or.inl ⟨by rfl, ?_⟩) ?_ ?_
    rotate_left
    · intro w'
      go_simp
      with_reducible rfl
    rotate_left
    · simp only [Act.put, List.setIfInBounds_toArray, List.set_cons_zero, List.set_cons_succ, i64_w, i32_w]
      rfl
    refine one_ (i := 9) (N := some 6) (bl 10 2) rfl rfl (by kernel_rfl) (by decide) (fun K hK => ?_)
    refine value_ (v := .pointer (some ⟨wd.heap.size, 0, none⟩)) (w1 := wd.alloc (.cells #[.string ⟨#[]⟩, .string ⟨#[]⟩, .string ⟨#[]⟩, .int .i64 0] 27)) (by rfl) rfl ?_ ?_
    · go_simp
    have hal5 := (Below.refl wd.heap.size wd).alloc (Nat.le_refl _) (.cells #[.string ⟨#[]⟩, .string ⟨#[]⟩, .string ⟨#[]⟩, .int .i64 0] 27)
    have hT5 := TB.below T4.out hal5
    have hN5 := blk_below N4.out hal5
    have hP5 := blk_below P4.out hal5
    have hA5 := A4.out.trans (below_lower hal5 A4.out.size)
    have hQ5 := blk_new wd (.cells #[.string ⟨#[]⟩, .string ⟨#[]⟩, .string ⟨#[]⟩, .int .i64 0] 27)
    have T5 := Lib.hid hT5
    have N5 := Lib.hid hN5
    have P5 := Lib.hid hP5
    have A5 := Lib.hid hA5
    have Q5 := Lib.hid hQ5
    have HQ := Lib.hid (show t < wd.heap.size ∧ b < wd.heap.size ∧ w.heap.size < wd.heap.size ∧ pp < wd.heap.size from ⟨T4.out.lt.1, T4.out.lt.2, blk_lt N4.out, blk_lt P4.out⟩)
    have HA := Lib.hid A4.out.size
    obtain ⟨qq, hqq⟩ : ∃ qq, qq = wd.heap.size := ⟨_, rfl⟩
    rw [← hqq] at Q5 HQ HA ⊢
    clear hal5 hT5 hN5 hP5 hA5 hQ5 hqq T4 N4 P4 A4
    generalize wd.alloc _ = w5 at T5 N5 P5 A5 Q5 ⊢
    refine hK.out _ _ ⟨T5.out.cell, (blk_cell P5.out 0).trans rfl, (blk_cell P5.out 1).trans rfl, HC.out _ T5.out.holds⟩ (fun hHeld => ?_)
    clear hK K
    refine norm_ (a' := ?_) ?_ ?_
    rotate_left
    · show Act.put _ (some 6) _ = _
      simp only [Act.put, List.setIfInBounds_toArray, List.set_cons_zero, List.set_cons_succ, i64_w, i32_w]
      rfl
    refine one_ (i := 10) (N := none) (bl 11 1) rfl rfl (by kernel_rfl) (by decide) (fun K hK => ?_)
    have hf0 := blk_frozen Q5.out 0
    have hf1 := blk_frozen Q5.out 1
    have hf2 := blk_frozen Q5.out 2
    have hf3 := blk_frozen Q5.out 3
    have hcs0 := (blk_cell Q5.out 0).trans rfl
    have hcs1 := (blk_cell Q5.out 1).trans rfl
    have hcs2 := (blk_cell Q5.out 2).trans rfl
    have hcs3 := (blk_cell Q5.out 3).trans rfl
    refine skip_ (w1 := ?_) (by rfl) rfl ?_ ?_
    rotate_left
    · go_simp
      rfl
    have hbq := ((((Below.refl qq w5).setCell (p := ⟨qq, 0, none⟩) (Nat.le_refl qq) (.string cp)).setCell (p := ⟨qq, 1, none⟩) (Nat.le_refl qq) (.string cn)).setCell (p := ⟨qq, 2, none⟩) (Nat.le_refl qq) (.string cs)).setCell (p := ⟨qq, 3, none⟩) (Nat.le_refl qq) (.int .i64 cv)
    have T6 := Lib.hid (T5.out.belowB hbq HQ.out.1 HQ.out.2.1)
    have N6 := Lib.hid ((hbq.block _ HQ.out.2.2.1).trans N5.out)
    have P6 := Lib.hid ((hbq.block _ HQ.out.2.2.2).trans P5.out)
    have A6 := Lib.hid (A5.out.trans (below_lower hbq (Nat.le_of_lt HQ.out.2.2.1)))
    clear hf0 hf1 hf2 hf3 hcs0 hcs1 hcs2 hcs3 hbq T5 N5 P5 A5 Q5
    generalize World.setCell _ _ _ = w6 at T6 N6 P6 A6 ⊢
    refine hK.out _ _ ⟨T6.out.cell, (blk_cell P6.out 0).trans rfl, (blk_cell P6.out 1).trans rfl, HC.out _ T6.out.holds⟩ (fun hHeld => ?_)
    clear hK K
    refine pure_ (i := 11) (N := some 7) (v := ?_) (a' := ?_) (bl 12 0) rfl rfl (by kernel_rfl) (fun _ _ _ h => h) (Or.inl ⟨by rfl, ?_⟩) ?_ ?_
    rotate_left
    · intro w'
      go_simp
      with_reducible rfl
    rotate_left
    · simp only [Act.put, List.setIfInBounds_toArray, List.set_cons_zero, List.set_cons_succ, i64_w, i32_w]
      rfl
    refine done_ (by kernel_rfl) ?_
    clear hHeld HC HQ HA
    have hd0 := (blk_cell N6.out 0).trans rfl
    have hd1 := (blk_cell N6.out 1).trans rfl
    have hd2 := (blk_cell N6.out 2).trans rfl
    have hd3 := (blk_cell N6.out 3).trans rfl
    have hmany := many_ok w6 t b M bp T6.out.cell T6.out.holds HM.out
    have MANY := Lib.hid hmany
    clear hmany
    cases there
    · by_cases h16 : 16 ≤ cnt bp M
      · have hdec : decide ((cnt bp M : Int) ≥ 16) = true := decide_eq_true (by omega)
        have H16 := Lib.hid h16
        clear h16
        go_wp2_with (go_at_call 45; refine MANY.out.mono ?_; rintro e w7 ⟨rfl, hb7⟩; have B7 := Lib.hid hb7; clear hb7)
        go_ret
        have e1 : setE M ⟨bp, bn, bs, bv⟩ = 194 := by rw [HE.out, if_pos ⟨by simpa using HTH.out.symm, H16.out⟩]
        have e2 : setM M ⟨bp, bn, bs, bv⟩ = M := by unfold setM; rw [e1, if_neg (by decide)]
        exact ⟨by rw [e1] <;> rfl, by rw [e2]; exact T6.out.below B7.out, Off.of_below (A6.out.trans (below_lower B7.out A6.out.size))⟩
      · have hdec : decide ((cnt bp M : Int) ≥ 16) = false := decide_eq_false (by omega)
        have H16 := Lib.hid h16
        clear h16
        go_upto_region 7 with (go_at_call 45; refine MANY.out.mono ?_; rintro e w7 ⟨rfl, hb7⟩; have B7 := Lib.hid hb7; clear hb7)
        have T7 := Lib.hid (T6.out.below B7.out)
        have N7 := Lib.hid (blk_below N6.out B7.out)
        have P7 := Lib.hid (blk_below P6.out B7.out)
        have A7 := Lib.hid (A6.out.trans (below_lower B7.out A6.out.size))
        clear T6 N6 P6 A6 B7 MANY hdec
        have hE0 : setE M ⟨bp, bn, bs, bv⟩ = 0 := by rw [HE.out, if_neg (fun h => H16.out h.2)]
        have hM0 : setM M ⟨bp, bn, bs, bv⟩ = putA (bp, bn) ⟨bp, bn, bs, bv⟩ M := by unfold setM; rw [if_pos hE0]
        have HM0 := Lib.hid hM0
        have HE0 := Lib.hid hE0
        clear hE0 hM0 hd0 hd1 hd2 hd3
        refine start_ (n := 7) (S := fun w' => w'.cell? ⟨t, 0, none⟩ = some (.map (some b)) ∧ w'.cell? ⟨pp, 0, none⟩ = some (.string bp) ∧ w'.cell? ⟨pp, 1, none⟩ = some (.string bn) ∧ w'.cell? ⟨w.heap.size, 0, none⟩ = some (.string bp) ∧ w'.cell? ⟨w.heap.size, 1, none⟩ = some (.string bn) ∧ w'.cell? ⟨w.heap.size, 2, none⟩ = some (.string bs) ∧ w'.cell? ⟨w.heap.size, 3, none⟩ = some (.int .i64 bv)) (ds := [6]) (bl 0 7) (by kernel_rfl) rfl rfl ⟨T7.out.cell, (blk_cell P7.out 0).trans rfl, (blk_cell P7.out 1).trans rfl, (blk_cell N7.out 0).trans rfl, (blk_cell N7.out 1).trans rfl, (blk_cell N7.out 2).trans rfl, (blk_cell N7.out 3).trans rfl⟩ (fun hHeld => ?_)
        have hwd := drew_below w7
        have T8 := Lib.hid (TB.below T7.out hwd)
        have A8 := Lib.hid (A7.out.trans (below_lower hwd A7.out.size))
        clear hwd T7 N7 P7 A7
        generalize w7.drew = wd at T8 A8 hHeld ⊢
        refine pure_ (i := 0) (N := some 34) (v := ?_) (a' := ?_) (bl 1 6) rfl rfl (by kernel_rfl) (fun _ _ _ h => h) (Or.inl ⟨by rfl, ?_⟩) ?_ ?_
        rotate_left
        · intro w'
          go_simp
          with_reducible rfl
        rotate_left
        · simp only [Act.put, List.setIfInBounds_toArray, List.set_cons_zero, List.set_cons_succ, i64_w, i32_w]
          rfl
        refine pure_ (i := 1) (N := some 35) (v := ?_) (a' := ?_) (bl 2 5) rfl rfl (by kernel_rfl) (fun _ _ _ h => h) (Or.inl ⟨by rfl, ?_⟩) ?_ ?_
        rotate_left
        · intro w'
          go_simp
          with_reducible rfl
        rotate_left
        · simp only [Act.put, List.setIfInBounds_toArray, List.set_cons_zero, List.set_cons_succ, i64_w, i32_w]
          rfl
        refine pure_ (i := 2) (N := some 36) (v := ?_) (a' := ?_) (bl 3 4) rfl rfl (by kernel_rfl) (fun _ _ _ h => h) (Or.inl ⟨by rfl, ?_⟩) ?_ ?_
        rotate_left
        · intro w'
          go_simp
          with_reducible rfl
        rotate_left
        · simp only [Act.put, List.setIfInBounds_toArray, List.set_cons_zero, List.set_cons_succ, i64_w, i32_w]
          rfl
        refine take_ (i := 3) (N := some 37) (v := ?_) (a' := ?_) (bl 4 3) rfl rfl (by kernel_rfl) (fun _ _ _ h => h) (Or.inl ⟨by rfl, ?_⟩) hHeld ?_ ?_
        rotate_left
        · rintro w' ⟨s0, s1, s2, s3, s4, s5, s6⟩
          go_simp
          with_reducible rfl
        rotate_left
        · simp only [Act.put, List.setIfInBounds_toArray, List.set_cons_zero, List.set_cons_succ, i64_w, i32_w]
          rfl
        refine take_ (i := 4) (N := some 38) (v := ?_) (a' := ?_) (bl 5 2) rfl rfl (by kernel_rfl) (fun _ _ _ h => h) (Or.inl ⟨by rfl, ?_⟩) hHeld ?_ ?_
        rotate_left
        · rintro w' ⟨s0, s1, s2, s3, s4, s5, s6⟩
          go_simp
          with_reducible rfl
        rotate_left
        · simp only [Act.put, List.setIfInBounds_toArray, List.set_cons_zero, List.set_cons_succ, i64_w, i32_w]
          rfl
        refine take_ (i := 5) (N := some 39) (v := ?_) (a' := ?_) (bl 6 1) rfl rfl (by kernel_rfl) (fun _ _ _ h => h) (Or.inl ⟨by rfl, ?_⟩) hHeld ?_ ?_
        rotate_left
        · rintro w' ⟨s0, s1, s2, s3, s4, s5, s6⟩
          go_simp
          with_reducible rfl
        rotate_left
        · simp only [Act.put, List.setIfInBounds_toArray, List.set_cons_zero, List.set_cons_succ, i64_w, i32_w]
          rfl
        refine last_ (i := 6) (N := none) (bl 7 0) rfl rfl (by kernel_rfl) (by decide) (fun K hK => ?_)
        have hup := T8.out.holds.update (P := Tryd.prog) kind_pl (fun a => ⟨a, rfl⟩) eqPl_iff 66 27 Tryd.underlying66 (bp, bn) ⟨bp, bn, bs, bv⟩
        obtain ⟨o, hrun, hho⟩ := hup
        have HHO := Lib.hid hho
        clear hho
        unfold eK eV at hrun
        refine skip_ (w1 := setBlock wd b o) (by rfl) rfl ?_ ?_
        · go_simp
        refine hK.out _ _ ?_
        clear hK K hrun
        refine done_ (by kernel_rfl) ?_
        have TF := Lib.hid (TB.off T8.out (Off.set b wd o) HHO.out (by rw [← HM0.out]; exact HSL.out) (by rw [← HM0.out]; exact HSF.out))
        have OF := Lib.hid ((Off.of_below (b := b) A8.out).trans (Off.set b wd o))
        clear T8 A8 HHO
        generalize setBlock wd b o = wz at TF OF ⊢
        go_wp2
        go_ret
        exact ⟨by rw [HE0.out] <;> rfl, by rw [HM0.out]; exact TF.out, OF.out⟩
    · go_upto_region 7 with fail
      have T7 := Lib.hid T6.out
      have N7 := Lib.hid N6.out
      have P7 := Lib.hid P6.out
      have A7 := Lib.hid A6.out
      clear T6 N6 P6 A6 MANY
      obtain ⟨w7, hw7⟩ : ∃ w7, w7 = w6 := ⟨_, rfl⟩
      rw [← hw7] at T7 N7 P7 A7 ⊢
      clear hw7
      have hE0 : setE M ⟨bp, bn, bs, bv⟩ = 0 := by rw [HE.out, if_neg (fun h => by have h1 := HTH.out; have h2 := h.1; rw [Option.isNone_iff_eq_none] at h2; rw [h2] at h1; cases h1)]
      have hM0 : setM M ⟨bp, bn, bs, bv⟩ = putA (bp, bn) ⟨bp, bn, bs, bv⟩ M := by unfold setM; rw [if_pos hE0]
      have HM0 := Lib.hid hM0
      have HE0 := Lib.hid hE0
      clear hE0 hM0 hd0 hd1 hd2 hd3
      refine start_ (n := 7) (S := fun w' => w'.cell? ⟨t, 0, none⟩ = some (.map (some b)) ∧ w'.cell? ⟨pp, 0, none⟩ = some (.string bp) ∧ w'.cell? ⟨pp, 1, none⟩ = some (.string bn) ∧ w'.cell? ⟨w.heap.size, 0, none⟩ = some (.string bp) ∧ w'.cell? ⟨w.heap.size, 1, none⟩ = some (.string bn) ∧ w'.cell? ⟨w.heap.size, 2, none⟩ = some (.string bs) ∧ w'.cell? ⟨w.heap.size, 3, none⟩ = some (.int .i64 bv)) (ds := [6]) (bl 0 7) (by kernel_rfl) rfl rfl ⟨T7.out.cell, (blk_cell P7.out 0).trans rfl, (blk_cell P7.out 1).trans rfl, (blk_cell N7.out 0).trans rfl, (blk_cell N7.out 1).trans rfl, (blk_cell N7.out 2).trans rfl, (blk_cell N7.out 3).trans rfl⟩ (fun hHeld => ?_)
      have hwd := drew_below w7
      have T8 := Lib.hid (TB.below T7.out hwd)
      have A8 := Lib.hid (A7.out.trans (below_lower hwd A7.out.size))
      clear hwd T7 N7 P7 A7
      generalize w7.drew = wd at T8 A8 hHeld ⊢
      refine pure_ (i := 0) (N := some 34) (v := ?_) (a' := ?_) (bl 1 6) rfl rfl (by kernel_rfl) (fun _ _ _ h => h) (Or.inl ⟨by rfl, ?_⟩) ?_ ?_
      rotate_left
      · intro w'
        go_simp
        with_reducible rfl
      rotate_left
      · simp only [Act.put, List.setIfInBounds_toArray, List.set_cons_zero, List.set_cons_succ, i64_w, i32_w]
        rfl
      refine pure_ (i := 1) (N := some 35) (v := ?_) (a' := ?_) (bl 2 5) rfl rfl (by kernel_rfl) (fun _ _ _ h => h) (Or.inl ⟨by rfl, ?_⟩) ?_ ?_
      rotate_left
      · intro w'
        go_simp
        with_reducible rfl
      rotate_left
      · simp only [Act.put, List.setIfInBounds_toArray, List.set_cons_zero, List.set_cons_succ, i64_w, i32_w]
        rfl
      refine pure_ (i := 2) (N := some 36) (v := ?_) (a' := ?_) (bl 3 4) rfl rfl (by kernel_rfl) (fun _ _ _ h => h) (Or.inl ⟨by rfl, ?_⟩) ?_ ?_
      rotate_left
      · intro w'
        go_simp
        with_reducible rfl
      rotate_left
      · simp only [Act.put, List.setIfInBounds_toArray, List.set_cons_zero, List.set_cons_succ, i64_w, i32_w]
        rfl
      refine take_ (i := 3) (N := some 37) (v := ?_) (a' := ?_) (bl 4 3) rfl rfl (by kernel_rfl) (fun _ _ _ h => h) (Or.inl ⟨by rfl, ?_⟩) hHeld ?_ ?_
      rotate_left
      · rintro w' ⟨s0, s1, s2, s3, s4, s5, s6⟩
        go_simp
        with_reducible rfl
      rotate_left
      · simp only [Act.put, List.setIfInBounds_toArray, List.set_cons_zero, List.set_cons_succ, i64_w, i32_w]
        rfl
      refine take_ (i := 4) (N := some 38) (v := ?_) (a' := ?_) (bl 5 2) rfl rfl (by kernel_rfl) (fun _ _ _ h => h) (Or.inl ⟨by rfl, ?_⟩) hHeld ?_ ?_
      rotate_left
      · rintro w' ⟨s0, s1, s2, s3, s4, s5, s6⟩
        go_simp
        with_reducible rfl
      rotate_left
      · simp only [Act.put, List.setIfInBounds_toArray, List.set_cons_zero, List.set_cons_succ, i64_w, i32_w]
        rfl
      refine take_ (i := 5) (N := some 39) (v := ?_) (a' := ?_) (bl 6 1) rfl rfl (by kernel_rfl) (fun _ _ _ h => h) (Or.inl ⟨by rfl, ?_⟩) hHeld ?_ ?_
      rotate_left
      · rintro w' ⟨s0, s1, s2, s3, s4, s5, s6⟩
        go_simp
        with_reducible rfl
      rotate_left
      · simp only [Act.put, List.setIfInBounds_toArray, List.set_cons_zero, List.set_cons_succ, i64_w, i32_w]
        rfl
      refine last_ (i := 6) (N := none) (bl 7 0) rfl rfl (by kernel_rfl) (by decide) (fun K hK => ?_)
      have hup := T8.out.holds.update (P := Tryd.prog) kind_pl (fun a => ⟨a, rfl⟩) eqPl_iff 66 27 Tryd.underlying66 (bp, bn) ⟨bp, bn, bs, bv⟩
      obtain ⟨o, hrun, hho⟩ := hup
      have HHO := Lib.hid hho
      clear hho
      unfold eK eV at hrun
      refine skip_ (w1 := setBlock wd b o) (by rfl) rfl ?_ ?_
      · go_simp
      refine hK.out _ _ ?_
      clear hK K hrun
      refine done_ (by kernel_rfl) ?_
      have TF := Lib.hid (TB.off T8.out (Off.set b wd o) HHO.out (by rw [← HM0.out]; exact HSL.out) (by rw [← HM0.out]; exact HSF.out))
      have OF := Lib.hid ((Off.of_below (b := b) A8.out).trans (Off.set b wd o))
      clear T8 A8 HHO
      generalize setBlock wd b o = wz at TF OF ⊢
      go_wp2
      go_ret
      exact ⟨by rw [HE0.out] <;> rfl, by rw [HM0.out]; exact TF.out, OF.out⟩
  · rw [if_neg hf] at key
    have hE : setE M ⟨bp, bn, bs, bv⟩ = 130 := by unfold setE; rw [if_neg hf]
    have hM0 : setM M ⟨bp, bn, bs, bv⟩ = M := by unfold setM; rw [hE, if_neg (by decide)]
    rw [hE, hM0]
    clear hE hM0 hsl hsf hM hf
    unfold eV at key ⊢
    have KEY := Lib.hid key
    have hal := (Below.refl w.heap.size w).alloc (Nat.le_refl _) (.cells #[.string bp, .string bn, .string bs, .int .i64 bv] 27)
    have hnew := blk_new w (.cells #[.string bp, .string bn, .string bs, .int .i64 bv] 27)
    have hG1 := Glob.below hG hal
    have hT1 := TB.below hT hal
    have AL := Lib.hid hal
    have NW := Lib.hid hnew
    have GL := Lib.hid hG1
    have TL := Lib.hid hT1
    clear key hG1 hal hnew hG hT1 hT
    go_enter Tryd.func20, Tryd.ntmps20
    go_upto_region 1 with fail
    generalize w.alloc _ = w1 at AL NW GL TL ⊢
    have hd0 := (blk_cell NW.out 0).trans rfl
    have hd1 := (blk_cell NW.out 1).trans rfl
    have hd2 := (blk_cell NW.out 2).trans rfl
    have hd3 := (blk_cell NW.out 3).trans rfl
    go_wp2_with (go_at_call 33; refine (KEY.out _ GL.out).mono ?_; rintro e w2 ⟨rfl, hb2⟩; have B2 := Lib.hid hb2; clear hb2)
    go_ret
    exact ⟨rfl, TL.out.below B2.out, Off.of_below (AL.out.trans (below_lower B2.out AL.out.size))⟩
end Go.Proofs.YtphddbijdfmpjaaDoor.Wr
namespace Go.Proofs.YtphddbijdfmpjaaDoor.Wr
open Go.RowKit Go.MapRaw Go.Proofs.YtphddbijdfmpjaaDoorW.PrintWords Go.Proofs.YtphddbijdfmpjaaDoorW.PrintLast Go.Proofs.YtphddbijdfmpjaaDoor.Q
open Go.ChangeMaps (setBlock)
set_option linter.unusedVariables false
set_option linter.unusedSimpArgs false
def dropE (M : Tab) (path name : ByteArray) : Int := if pathS path = 0 then (if (getA (path, name) M).isSome = true then 0 else 191) else 41
def dropM (M : Tab) (path name : ByteArray) : Tab := if dropE M path name = 0 then delA (path, name) M else M
theorem del_mem {k : Key} {x : Key × Bnd} {M : Tab} (h : x ∈ delA k M) : x ∈ M := del_sub k M x h
theorem path_ok (s : ByteArray) (w : World) (hG : Glob w) : Calls Tryd.prog 19 #[.string s] w fun e w' => e = .returned (.int .i64 (pathS s)) ∧ Below w.heap.size w w' := by
  obtain ⟨k, h⟩ := path_ev s
  exact label_Path.calls k _ _ w (h k (Nat.le_refl _)) hG
set_option maxRecDepth 100000 in
set_option maxHeartbeats 4000000 in
theorem drop_ok (w : World) (t b : Nat) (M : Tab) (dp dn : ByteArray) (hT : TB w t b M) (hG : Glob w) :
    Calls Tryd.prog 21 #[.pointer (some ⟨t, 0, none⟩), .string dp, .string dn] w fun e w' => e = .returned (.int .i64 (dropE M dp dn)) ∧ TB w' t b (dropM M dp dn) ∧ Off b w w' := by
  have hu70 := Tryd.underlying70
  have hu27 := Tryd.underlying27
  have key := path_ok dp w hG
  rcases line_cases dp with ⟨hp, _⟩ | ⟨hp, _⟩
  · rw [hp] at key
    have hE : dropE M dp dn = if (getA (dp, dn) M).isSome = true then 0 else 191 := by unfold dropE; rw [if_pos hp]
    have hlk := fun w' (h : Holds eK eV w' b M) => h.lookup kind_pl (fun a => ⟨a, rfl⟩) eqPl_iff 66 27 Tryd.underlying66 (dp, dn) _ (Tryd.zeroValue27 w') true
    obtain ⟨c, hc⟩ : ∃ c : Bnd, ∀ w', Holds eK eV w' b M → (Instr.lookup 66 (.map (some b)) (.agg #[.string dp, .string dn]) true).run Tryd.prog w' = .ok (.tuple #[.agg #[.string c.path, .string c.name, .string c.subject, .int .i64 c.verb], .bool (getA (dp, dn) M).isSome]) w' := by
      refine ⟨(getA (dp, dn) M).getD ⟨⟨#[]⟩, ⟨#[]⟩, ⟨#[]⟩, 0⟩, fun w' h => (hlk w' h).trans ?_⟩
      cases getA (dp, dn) M <;> rfl
    obtain ⟨there, hth⟩ : ∃ x, x = (getA (dp, dn) M).isSome := ⟨_, rfl⟩
    rw [← hth] at hc hE
    have HC := Lib.hid hc
    have HE := Lib.hid hE
    have KEY := Lib.hid key
    have TL := Lib.hid hT
    clear hlk hc hth hE key hG hT hp
    obtain ⟨cp, cn, cs, cv⟩ := c
    go_enter Tryd.func21, Tryd.ntmps21
    go_upto_region 3 with (go_at_call 19; refine KEY.out.mono ?_; rintro e w2 ⟨rfl, hb2⟩; have B2 := Lib.hid hb2; have T2 := Lib.hid (TL.out.below hb2); clear hb2)
    have hc0 := T2.out.cell
    have hrun := HC.out _ T2.out.holds
    go_upto_region 4 with fail
    have hbq := (Below.refl w2.heap.size w2).alloc (Nat.le_refl _) (.cells #[.string cp, .string cn, .string cs, .int .i64 cv] 27)
    have B3 := Lib.hid (B2.out.trans (below_lower hbq B2.out.size))
    have T3 := Lib.hid (T2.out.below hbq)
    clear hbq T2 B2 TL hc0 hrun
    generalize w2.alloc _ = w3 at T3 B3 ⊢
    have hc0 := T3.out.cell
    cases there
    · go_wp2
      go_ret
      have e2 : dropM M dp dn = M := by unfold dropM; rw [HE.out, if_neg (by decide)]
      exact ⟨by rw [HE.out] <;> rfl, by rw [e2]; exact T3.out, Off.of_below B3.out⟩
    · have hdel := T3.out.holds.delete (P := Tryd.prog) kind_pl (fun a => ⟨a, rfl⟩) eqPl_iff 66 27 0 70 Tryd.underlying66 (dp, dn)
      obtain ⟨o, hrun, hho⟩ := hdel
      have HHO := Lib.hid hho
      clear hho
      unfold eK at hrun
      go_wp2
      go_ret
      have e2 : dropM M dp dn = delA (dp, dn) M := by unfold dropM; rw [HE.out, if_pos (by decide)]
      exact ⟨by rw [HE.out] <;> rfl, by rw [e2]; exact TB.off T3.out (Off.set b w3 o) HHO.out (nodup_del _ M T3.out.nodup) (fun p hp => T3.out.fits p (del_mem hp)), (Off.of_below B3.out).trans (Off.set b w3 o)⟩
  · rw [hp] at key
    have hE : dropE M dp dn = 41 := by unfold dropE; rw [hp, if_neg (by decide)]
    have hM0 : dropM M dp dn = M := by unfold dropM; rw [hE, if_neg (by decide)]
    rw [hE, hM0]
    have KEY := Lib.hid key
    have TL := Lib.hid hT
    clear hE hM0 hp key hG hT
    go_enter Tryd.func21, Tryd.ntmps21
    go_wp2_with (go_at_call 19; refine KEY.out.mono ?_; rintro e w2 ⟨rfl, hb2⟩; have B2 := Lib.hid hb2; have T2 := Lib.hid (TL.out.below hb2); clear hb2)
    go_ret
    exact ⟨rfl, T2.out, Off.of_below B2.out⟩
end Go.Proofs.YtphddbijdfmpjaaDoor.Wr
namespace Go.Proofs.YtphddbijdfmpjaaDoor.Wr
open Go.RowKit Go.MapRaw Go.Proofs.YtphddbijdfmpjaaDoorW.PrintWords Go.Proofs.YtphddbijdfmpjaaDoorW.PrintLast Go.Proofs.YtphddbijdfmpjaaDoor.Q
open Go.ChangeMaps (setBlock)
set_option linter.unusedVariables false
set_option linter.unusedSimpArgs false
theorem Off.set_high {b : Nat} {u w : World} (h : Off b u w) {r : Nat} (hr : u.heap.size ≤ r) (o : Obj) : Off b u (setBlock w r o) :=
  ⟨h.os, h.tape, h.output, by rw [set_size]; exact h.size, fun k hk hn => by rw [set_far _ _ _ _ (by omega)]; exact h.block k hk hn⟩
theorem Off.drew {b : Nat} {u w : World} (h : Off b u w) : Off b u w.drew := ⟨h.os, h.tape, h.output, h.size, h.block⟩
theorem Off.alloc {b : Nat} {u w : World} (h : Off b u w) (o : Obj) : Off b u (w.alloc o) := h.trans (Off.of_below ((Below.refl _ _).alloc (Nat.le_refl _) o))
instance memKey (k : Key) (l : List Key) : Decidable (k ∈ l) := decidable_of_iff (l.any (fun y => decide (y = k)) = true) (by simp)
def keepM (path : ByteArray) (L M : Tab) : Tab := M.filter fun x => decide (x.1.1 ≠ path ∨ x.1 ∈ List.map (fun y : Key × Bnd => y.1) L)
def leaveM (path : ByteArray) (M : Tab) : Tab := M.filter fun x => decide (x.1.1 ≠ path)
theorem keep_all (path : ByteArray) (M : Tab) : keepM path M M = M := by
  unfold keepM
  rw [List.filter_eq_self]
  intro x hx
  rw [decide_eq_true_eq]
  exact .inr (List.mem_map_of_mem (f := fun y : Key × Bnd => y.1) hx)
theorem keep_nil (path : ByteArray) (M : Tab) : keepM path [] M = leaveM path M := by
  unfold keepM leaveM
  apply List.filter_congr
  intro x _
  simp
theorem del_filter (k : Key) : ∀ M : Tab, (M.map (·.1)).Nodup → delA k M = M.filter fun x => decide (x.1 ≠ k)
  | [], _ => rfl
  | p :: r, h => by
    rw [List.map_cons, List.nodup_cons] at h
    unfold delA
    by_cases e : p.1 = k
    · rw [if_pos e, List.filter_cons, if_neg (by simp [e])]
      refine (List.filter_eq_self.2 fun x hx => ?_).symm
      rw [decide_eq_true_eq]
      intro e2
      refine h.1 ?_
      rw [e, ← e2]
      exact List.mem_map_of_mem (f := fun y : Key × Bnd => y.1) hx
    · rw [if_neg e, List.filter_cons, if_pos (by simpa using e), del_filter k r h.2]
theorem keep_far {path : ByteArray} {M A B : Tab} {p : Key × Bnd} (h : p.1.1 ≠ path) : keepM path (A ++ p :: B) M = keepM path (A ++ B) M := by
  unfold keepM
  apply List.filter_congr
  intro x _
  rw [decide_eq_decide]
  simp only [List.map_append, List.map_cons, List.mem_append, List.mem_cons]
  constructor
  · rintro (e | e | e | e)
    · exact .inl e
    · exact .inr (.inl e)
    · exact .inl (by rw [e]; exact h)
    · exact .inr (.inr e)
  · rintro (e | e | e)
    · exact .inl e
    · exact .inr (.inl e)
    · exact .inr (.inr (.inr e))
theorem keep_hit {path : ByteArray} {M A B : Tab} {p : Key × Bnd} (hM : (M.map (·.1)).Nodup) (h : p.1.1 = path) (hn : p.1 ∉ (A ++ B).map (·.1)) : delA p.1 (keepM path (A ++ p :: B) M) = keepM path (A ++ B) M := by
  have hs : ((keepM path (A ++ p :: B) M).map (·.1)).Nodup := ((List.filter_sublist (l := M)).map _).nodup hM
  rw [del_filter _ _ hs]
  unfold keepM
  rw [List.filter_filter]
  apply List.filter_congr
  intro x _
  rw [Bool.eq_iff_iff, Bool.and_eq_true]
  simp only [decide_eq_true_eq]
  constructor
  · rintro ⟨h1, h2 | h2⟩
    · exact .inl h2
    · rw [List.map_append, List.map_cons, List.mem_append, List.mem_cons] at h2
      rw [List.map_append, List.mem_append]
      exact .inr (h2.elim .inl fun h2 => h2.elim (fun e => absurd e h1) .inr)
  · intro h1
    refine ⟨fun e => ?_, ?_⟩
    · rcases h1 with h1 | h1
      · exact h1 (by rw [e]; exact h)
      · rw [e] at h1; exact hn h1
    · rcases h1 with h1 | h1
      · exact .inl h1
      · rw [List.map_append, List.mem_append] at h1
        rw [List.map_append, List.map_cons, List.mem_append, List.mem_cons]
        exact .inr (h1.elim .inl fun h1 => .inr (.inr h1))
theorem nodup_out {A B : Tab} {p : Key × Bnd} (h : ((A ++ p :: B).map (·.1)).Nodup) : p.1 ∉ (A ++ B).map (·.1) ∧ ((A ++ B).map (·.1)).Nodup := by
  rw [List.map_append, List.map_cons] at h
  have h2 := (List.perm_middle (l₁ := A.map (·.1)) (l₂ := B.map (·.1)) (a := p.1)).nodup_iff.1 h
  rw [List.nodup_cons] at h2
  rw [List.map_append]
  exact h2
theorem leave_sub {path : ByteArray} {M : Tab} {x : Key × Bnd} (h : x ∈ leaveM path M) : x ∈ M := (List.mem_filter.1 h).1
set_option maxRecDepth 100000 in
set_option maxHeartbeats 4000000 in
theorem leave_ok (w : World) (t b : Nat) (M : Tab) (path : ByteArray) (hT : TB w t b M) (hM : M.length ≤ 1000000) :
    Calls Tryd.prog 22 #[.pointer (some ⟨t, 0, none⟩), .string path] w fun e w' => e = .returned (.int .i64 (cnt path M : Nat)) ∧ TB w' t b (leaveM path M) ∧ Off b w w' := by
  have hu70 := Tryd.underlying70
  obtain ⟨o, hr, hR⟩ := hT.holds.range (P := Tryd.prog) (T := 66) (eT := 27) (kT := 70) Tryd.underlying66
  have HR := Lib.hid hR
  have HM := Lib.hid hM
  have HT := Lib.hid hT
  have ht := hT.cell
  clear hT hR hM
  go_enter Tryd.func22, Tryd.ntmps22
  go_upto_region 3 with fail
  have hb1 : Off b w (w.alloc o) := (Off.refl b w).alloc o
  have HB1 := Lib.hid hb1
  have HRA := Aside0.mk HR.out
  clear hb1 hr
  generalize w.alloc o = w1 at HB1 HRA ⊢
  obtain ⟨r, hrr⟩ : ∃ r, r = w.heap.size := ⟨_, rfl⟩
  have HRR := Lib.hid hrr
  rw [← hrr] at HRA ⊢
  clear hrr ht HR
  go_loopg [5] M.length (fun g v5 wr => ∃ (n : Nat) (L : Tab), v5 = .int .i64 (n : Int) ∧ L.length ≤ g ∧ Aside0 (n + cnt path L = cnt path M) ∧ Aside0 (n ≤ M.length ∧ n + L.length ≤ M.length) ∧ Aside0 ((L.map (·.1)).Nodup) ∧ Aside0 (Ranging eK eV wr b r (keepM path L M) L) ∧ Aside0 (Off b w wr))
  case atStart => exact ⟨0, M, rfl, Nat.le_refl _, ⟨Nat.zero_add _⟩, ⟨by omega⟩, ⟨HT.out.nodup⟩, ⟨by rw [keep_all]; exact HRA.out⟩, ⟨HB1.out⟩⟩
  case round =>
    obtain ⟨n, L, rfl, hg, HC, HN, HND, HRg, HBw⟩ := hrel
    rcases HRg.out.next (P := Tryd.prog) 0 with ⟨hL, hrun⟩ | ⟨A, p, B, hL, wd, o2, hwd, hrun, hat⟩
    · subst hL
      go_wp2
      go_ret
      exact ⟨by have := HC.out; simp only [cnt, Nat.add_zero] at this; (rw [this] <;> rfl), TB.off HT.out HBw.out (by rw [← keep_nil]; exact HRg.out.holds) (((List.filter_sublist (l := M)).map _).nodup HT.out.nodup) (fun p hp => HT.out.fits p (leave_sub hp)), HBw.out⟩
    · subst hL
      cases gk with
      | zero => simp at hg
      | succ g =>
        have hent := hat.entry (P := Tryd.prog)
        have hbs : Off b w (setBlock wd r o2) := Off.set_high (by rcases hwd with rfl | rfl; exact HBw.out; exact HBw.out.drew) (by have := HRR.out; omega) o2
        have HBS := Lib.hid hbs
        have HAT := Lib.hid hat
        clear hbs hat hwd
        unfold eK eV at hrun hent
        generalize setBlock wd r o2 = w2 at HBS HAT hrun hent
        obtain ⟨⟨kp, kn⟩, bv⟩ := p
        have hnd := nodup_out HND.out
        have HN1 := Lib.hid hnd.1
        have HN2 := Lib.hid hnd.2
        clear hnd
        by_cases hp : kp = path
        · subst hp
          go_upto_region 6 with fail
          have hT3 : TB (w2.alloc (.cells #[.string kp, .string kn] 70)) t b (keepM kp (A ++ ((kp, kn), bv) :: B) M) := TB.off HT.out (HBS.out.alloc _) (Holds_alloc HAT.out.on.holds _) (((List.filter_sublist (l := M)).map _).nodup HT.out.nodup) (fun p hp => HT.out.fits p (List.mem_filter.1 hp).1)
          have hK3 := blk_new w2 (.cells #[.string kp, .string kn] 70)
          have hA3 := HAT.out.move (heap_alloc_old w2 (.cells #[.string kp, .string kn] 70) (Ranging_lt HAT.out.on).1) (heap_alloc_old w2 (.cells #[.string kp, .string kn] 70) (Ranging_lt HAT.out.on).2)
          have hO3 := HBS.out.alloc (.cells #[.string kp, .string kn] 70)
          have T3 := Lib.hid hT3
          have K3 := Lib.hid hK3
          have A3 := Lib.hid hA3
          have O3 := Lib.hid hO3
          clear hT3 hK3 hA3 hO3 HBS HAT hrun hent
          obtain ⟨kk, hkk⟩ : ∃ kk, kk = w2.heap.size := ⟨_, rfl⟩
          rw [← hkk] at K3 ⊢
          clear hkk
          generalize w2.alloc _ = w3 at T3 K3 A3 O3 ⊢
          refine start_ (n := 6) (S := fun w' => w'.cell? ⟨t, 0, none⟩ = some (.map (some b)) ∧ w'.cell? ⟨kk, 0, none⟩ = some (.string kp) ∧ w'.cell? ⟨kk, 1, none⟩ = some (.string kn)) (ds := [5]) (bl 0 6) (by kernel_rfl) rfl rfl ⟨T3.out.cell, (blk_cell K3.out 0).trans rfl, (blk_cell K3.out 1).trans rfl⟩ (fun hHeld => ?_)
          have A4 := Lib.hid (A3.out.move (w' := w3.drew) rfl rfl)
          have O4 := Lib.hid O3.out.drew
          clear A3 O3 T3 K3
          generalize w3.drew = w4 at A4 O4 hHeld ⊢
          refine pure_ (i := 0) (N := some 20) (v := ?_) (a' := ?_) (bl 1 5) rfl rfl (by kernel_rfl) (fun _ _ _ h => h) (Or.inl ⟨by rfl, ?_⟩) ?_ ?_
          rotate_left
          · intro w'
            go_simp
            with_reducible rfl
          rotate_left
          · simp only [Act.put, List.setIfInBounds_toArray, List.set_cons_zero, List.set_cons_succ, i64_w, i32_w]
            rfl
          refine pure_ (i := 1) (N := some 21) (v := ?_) (a' := ?_) (bl 2 4) rfl rfl (by kernel_rfl) (fun _ _ _ h => h) (Or.inl ⟨by rfl, ?_⟩) ?_ ?_
          rotate_left
          · intro w'
            go_simp
            with_reducible rfl
          rotate_left
          · simp only [Act.put, List.setIfInBounds_toArray, List.set_cons_zero, List.set_cons_succ, i64_w, i32_w]
            rfl
          refine pure_ (i := 2) (N := some 22) (v := ?_) (a' := ?_) (bl 3 3) rfl rfl (by kernel_rfl) (fun _ _ _ h => h) (Or.inl ⟨by rfl, ?_⟩) ?_ ?_
          rotate_left
          · intro w'
            go_simp
            with_reducible rfl
          rotate_left
          · simp only [Act.put, List.setIfInBounds_toArray, List.set_cons_zero, List.set_cons_succ, i64_w, i32_w]
            rfl
          refine take_ (i := 3) (N := some 23) (v := ?_) (a' := ?_) (bl 4 2) rfl rfl (by kernel_rfl) (fun _ _ _ h => h) (Or.inl ⟨by rfl, ?_⟩) hHeld ?_ ?_
          rotate_left
          · rintro w' ⟨s0, s1, s2⟩
            go_simp
            with_reducible rfl
          rotate_left
          · simp only [Act.put, List.setIfInBounds_toArray, List.set_cons_zero, List.set_cons_succ, i64_w, i32_w]
            rfl
          refine take_ (i := 4) (N := some 24) (v := ?_) (a' := ?_) (bl 5 1) rfl rfl (by kernel_rfl) (fun _ _ _ h => h) (Or.inl ⟨by rfl, ?_⟩) hHeld ?_ ?_
          rotate_left
          · rintro w' ⟨s0, s1, s2⟩
            go_simp
            with_reducible rfl
          rotate_left
          · simp only [Act.put, List.setIfInBounds_toArray, List.set_cons_zero, List.set_cons_succ, i64_w, i32_w]
            rfl
          refine last_ (i := 5) (N := none) (bl 6 0) rfl rfl (by kernel_rfl) (by decide) (fun K hK => ?_)
          obtain ⟨o5, hrun, hR5⟩ := A4.out.delete (P := Tryd.prog) kind_pl (fun a => ⟨a, rfl⟩) eqPl_iff 66 27 0 70 Tryd.underlying66 HN1.out
          rw [keep_hit HT.out.nodup rfl HN1.out] at hR5
          have HR5 := Lib.hid hR5
          clear hR5
          unfold eK at hrun
          refine value_ (v := .tuple #[]) (w1 := setBlock w4 b o5) (by rfl) rfl ?_ ?_
          · go_simp
          refine hK.out _ _ ?_
          clear hK K hrun
          refine norm_ (a' := ?_) ?_ ?_
          rotate_left
          · show Act.put _ none _ = _
            rfl
          refine done_ (by kernel_rfl) ?_
          have O5 := Lib.hid (O4.out.trans (Off.set b w4 o5))
          clear O4 A4
          generalize setBlock w4 b o5 = w5 at HR5 O5 ⊢
          go_wp2
          go_roundg g
          case measure => omega
          case rel => exact ⟨n + 1, A ++ B, by (have h1 := HN.out.1; have h2 := HM.out; rw [w64 n (by omega)]), by simp at hg ⊢; omega, ⟨by have := HC.out; rw [cnt_app] at this ⊢; simp only [cnt, if_pos] at this; omega⟩, ⟨by have := HN.out; simp at this ⊢; omega⟩, ⟨HN2.out⟩, ⟨HR5.out⟩, ⟨O5.out⟩⟩
        · have hpe : (kp.toList == path.toList) = false := by
            rw [toList_beq, Bool.eq_false_iff, Ne, ba_beq]; exact hp
          go_wp2
          go_roundg g
          case measure => omega
          case rel => exact ⟨n, A ++ B, rfl, by simp at hg ⊢; omega, ⟨by have := HC.out; rw [cnt_app] at this ⊢; simp only [cnt, if_neg hp] at this; omega⟩, ⟨by have := HN.out; simp at this ⊢; omega⟩, ⟨HN2.out⟩, ⟨by rw [← keep_far (p := ((kp, kn), bv)) hp]; exact Ranging_alloc HAT.out.on _⟩, ⟨HBS.out.alloc _⟩⟩
end Go.Proofs.YtphddbijdfmpjaaDoor.Wr
namespace Go.Proofs.YtphddbijdfmpjaaDoor.Q
open Go.RowKit Go.Proofs.YtphddbijdfmpjaaDoorW.PrintWords Go.Proofs.YtphddbijdfmpjaaDoorW.PrintLast Go.Proofs.YtphddbijdfmpjaaDoorW.PrintMore
attribute [local go_sem] max2_int min2_int max_two min_two max_three min_three max_four min_four   -- for this text's walks alone
set_option linter.unusedVariables false
set_option linter.unusedSimpArgs false
def access_isVerb.f (a0 : Int) : Option (Bool) := if a0 ≥ 0 then (some (decide (a0 ≤ 3))) else (some false)
set_option maxHeartbeats 8000000 in
set_option maxRecDepth 100000 in
theorem access_isVerb.calls (a0 : Int) (r : Bool) (w : World) (h : access_isVerb.f a0 = some r) :
    Calls Tryd.prog 31 #[.int .i64 a0] w fun e w' => e = .returned (.bool r) ∧ Drawn0 w w' := by
  have H : (if a0 ≥ 0 then (some (decide (a0 ≤ 3))) else (some false)) = some r := h
  clear h
  by_cases c2 : a0 ≥ 0
  · rw [if_pos c2] at H
    have c2b0 : decide (0 ≤ a0) = true := decide_eq_true c2
    clear c2
    obtain rfl := Option.some.inj H
    go_enter Tryd.func31, Tryd.ntmps31
    go_wp2
    go_ret
    exact ⟨by first | rfl | (simp; done) | (simp [*]; done), by repeat (first | exact Drawn0.refl _ | apply Drawn0.step)⟩
  · rw [if_neg c2] at H
    have c2b0 : decide (0 ≤ a0) = false := decide_eq_false c2
    clear c2
    obtain rfl := Option.some.inj H
    go_enter Tryd.func31, Tryd.ntmps31
    go_wp2
    go_ret
    exact ⟨by first | rfl | (simp; done) | (simp [*]; done), by repeat (first | exact Drawn0.refl _ | apply Drawn0.step)⟩
end Go.Proofs.YtphddbijdfmpjaaDoor.Q
namespace Go.Proofs.YtphddbijdfmpjaaDoor.Wr
open Go.RowKit Go.MapRaw Go.Proofs.YtphddbijdfmpjaaDoorW.PrintWords Go.Proofs.YtphddbijdfmpjaaDoorW.PrintLast Go.Proofs.YtphddbijdfmpjaaDoor.Q
open Go.ChangeMaps (setBlock)
set_option linter.unusedVariables false
set_option linter.unusedSimpArgs false
def zb : Bnd := ⟨⟨#[]⟩, ⟨#[]⟩, ⟨#[]⟩, 0⟩
def BestAt (M : Tab) (s : ByteArray) (v : Int) (q : ByteArray) (c : Bnd) : Prop := (∃ x ∈ M, x.2 = c ∧ Mat s v q x) ∧ ∀ x ∈ M, Mat s v q x → Op.bytesLess x.2.name.toList c.name.toList = false
def WhyIs (M : Tab) (s : ByteArray) (v : Int) (p : ByteArray) (c : Bnd) (fd : Bool) : Prop :=
  (fd = false ∧ c = zb ∧ whyB M s v p = false) ∨ (fd = true ∧ isV v = true ∧ ∃ A q B, (lineS p).1 = A ++ q :: B ∧ (∀ a ∈ A, hasAt M s v a = false) ∧ BestAt M s v q c)
theorem WhyIs.found {M : Tab} {s : ByteArray} {v : Int} {p : ByteArray} {c : Bnd} {fd : Bool} (h : WhyIs M s v p c fd) : fd = whyB M s v p := by
  rcases h with ⟨rfl, _, h⟩ | ⟨rfl, hv, A, q, B, hl, _, ⟨x, hx, _, hm⟩, _⟩
  · exact h.symm
  · refine ((whyB_iff M s v p).2 ⟨(isV_iff v).1 hv, q, ?_, x, hx, hm⟩).symm
    rw [hl]; simp
structure Best (M L : Tab) (s : ByteArray) (v : Int) (q : ByteArray) (c : Bnd) (fd : Bool) : Prop where
  seen : ∀ x ∈ M, Mat s v q x → x ∈ L ∨ (fd = true ∧ Op.bytesLess x.2.name.toList c.name.toList = false)
  is : fd = true → ∃ x ∈ M, x.2 = c ∧ Mat s v q x
  not : fd = false → c = zb
theorem Best.start (M : Tab) (s : ByteArray) (v : Int) (q : ByteArray) : Best M M s v q zb false :=
  ⟨fun x hx _ => .inl hx, fun h => (by cases h), fun _ => rfl⟩
theorem Best.skip {M A B : Tab} {x : Key × Bnd} {s : ByteArray} {v : Int} {q : ByteArray} {c : Bnd} {fd : Bool} (h : Best M (A ++ x :: B) s v q c fd) (hx : Mat s v q x → fd = true ∧ Op.bytesLess x.2.name.toList c.name.toList = false) : Best M (A ++ B) s v q c fd :=
  ⟨fun y hy hm => (by
    rcases h.seen y hy hm with hl | hl
    · rcases List.mem_append.1 hl with hl | hl
      · exact .inl (List.mem_append.2 (.inl hl))
      · rcases List.mem_cons.1 hl with rfl | hl
        · exact .inr (hx hm)
        · exact .inl (List.mem_append.2 (.inr hl))
    · exact .inr hl), h.is, h.not⟩
theorem Best.take {M A B : Tab} {x : Key × Bnd} {s : ByteArray} {v : Int} {q : ByteArray} {c : Bnd} {fd : Bool} (h : Best M (A ++ x :: B) s v q c fd) (hxM : x ∈ M) (hm : Mat s v q x) (hx : fd = true → Op.bytesLess x.2.name.toList c.name.toList = true) : Best M (A ++ B) s v q x.2 true :=
  ⟨fun y hy hmy => (by
    rcases h.seen y hy hmy with hl | ⟨hf, hl⟩
    · rcases List.mem_append.1 hl with hl | hl
      · exact .inl (List.mem_append.2 (.inl hl))
      · rcases List.mem_cons.1 hl with rfl | hl
        · exact .inr ⟨rfl, less_irrefl _⟩
        · exact .inl (List.mem_append.2 (.inr hl))
    · refine .inr ⟨rfl, ?_⟩
      cases hb : Op.bytesLess y.2.name.toList x.2.name.toList with
      | false => rfl
      | true => rw [less_trans _ _ _ hb (hx hf)] at hl; cases hl), fun _ => ⟨x, hxM, rfl, hm⟩, fun h => (by cases h)⟩
theorem Best.found {M : Tab} {s : ByteArray} {v : Int} {q : ByteArray} {c : Bnd} (h : Best M [] s v q c true) : BestAt M s v q c :=
  ⟨h.is rfl, fun x hx hm => ((h.seen x hx hm).resolve_left (by simp)).2⟩
theorem Best.none {M : Tab} {s : ByteArray} {v : Int} {q : ByteArray} {c : Bnd} (h : Best M [] s v q c false) : hasAt M s v q = false := by
  rw [Bool.eq_false_iff]
  intro hh
  obtain ⟨x, hx, hm⟩ := (hasAt_iff M s v q).1 hh
  rcases h.seen x hx hm with hl | ⟨hl, _⟩
  · cases hl
  · cases hl
theorem Ranging_mem {w : World} {b r : Nat} {M L : Tab} (h : Ranging eK eV w b r M L) : ∀ x ∈ L, ∃ y ∈ M, eK x.1 = eK y.1 ∧ eV x.2 = eV y.2 := by
  obtain ⟨es, c, s, seen, c0, h1, h2, h3, h4, h5, h6, h7⟩ := h
  intro x hx
  have hm : (eK x.1, eV x.2) ∈ L.map (fun p => (eK p.1, eV p.2)) := List.mem_map.2 ⟨x, hx, rfl⟩
  rw [← h7] at hm
  obtain ⟨e, he, hk⟩ := List.mem_map.1 hm
  have : kv e ∈ M.map (fun p => (eK p.1, eV p.2)) := by
    rw [← h2.list]; exact List.mem_map.2 ⟨e, (List.mem_filter.1 he).1, rfl⟩
  obtain ⟨y, hy, hyk⟩ := List.mem_map.1 this
  rw [hk] at hyk
  exact ⟨y, hy, (congrArg Prod.fst hyk).symm, (congrArg Prod.snd hyk).symm⟩
theorem eK_inj {p q : Key} (h : eK p = eK q) : p = q := (eqPl_iff p q).1 (by rw [← h]; exact (eqPl_iff p p).2 rfl)
theorem eV_inj {b c : Bnd} (h : eV b = eV c) : b = c := by
  obtain ⟨b1, b2, b3, b4⟩ := b
  obtain ⟨c1, c2, c3, c4⟩ := c
  unfold eV at h
  simp only [Value.agg.injEq, Array.mk.injEq, List.cons.injEq, Value.string.injEq, Value.int.injEq, and_true, true_and] at h
  obtain ⟨h1, h2, h3, h4⟩ := h
  rw [h1, h2, h3, h4]
theorem Ranging_in {w : World} {b r : Nat} {M L : Tab} (h : Ranging eK eV w b r M L) {x : Key × Bnd} (hx : x ∈ L) : x ∈ M := by
  obtain ⟨y, hy, h1, h2⟩ := Ranging_mem h x hx
  rw [show x = y from Prod.ext (eK_inj h1) (eV_inj h2)]
  exact hy
theorem results_cell_row_tmp {P : Program} {fn : Func} {p u : Tmp} {ty : TypeId} (h : fn.results = #[.cell p ty, .tmp u]) (tmps : Array Value) (w : World) (g : Nat) (t : TypeId) (cs : Array Value) (fr : Nat × Nat) (d : TypeDesc)
    (hp : tmps.getD p undef = .pointer (some ⟨g, 0, none⟩)) (hg : w.heap[g]? = some (.cells cs t fr))
    (hu : P.underlying ty = some d) (hd : (match d with | .struct _ | .array _ _ => true | _ => false) = true) (hi : (P.info? ty).map (·.size) = some cs.size) :
    (results fn tmps).run P w = .ok (.tuple #[.agg cs, tmps.getD u undef]) w := by
  have hp' : tmps[p]?.getD undef = .pointer (some ⟨g, 0, none⟩) := by simpa using hp
  simp [results, h, hp', asAddr, run_loadVar_row w g t ty cs fr d hg hu hd hi, Sem.run_bind]
theorem line_ok (s : ByteArray) (w : World) (hG : Glob w) : Calls Tryd.prog 12 #[.string s] w fun e w' => ∃ v0_ : Value, e = .returned (.tuple #[v0_, .int .i64 (lineS s).2]) ∧ Kd.R Kd.string 9 w' w.heap.size (fun _ => True) v0_ (lineS s).1 ∧ Below w.heap.size w w' := by
  obtain ⟨k, h⟩ := line_ev s
  exact label_Line.calls k _ _ _ w (h k (Nat.le_refl _)) hG
theorem verb_ok (v : Int) (w : World) : Calls Tryd.prog 31 #[.int .i64 v] w fun e w' => e = .returned (.bool (isV v)) ∧ Below w.heap.size w w' := by
  refine (access_isVerb.calls v (isV v) w ?_).mono (fun e w' h => ⟨h.1, h.2.below⟩)
  unfold access_isVerb.f isV
  by_cases h : v ≥ 0
  · rw [if_pos h, decide_eq_true h, Bool.true_and]
  · rw [if_neg h, decide_eq_false h, Bool.false_and]
end Go.Proofs.YtphddbijdfmpjaaDoor.Wr
namespace Go.Proofs.YtphddbijdfmpjaaDoor.Wr
open Go.RowKit Go.MapRaw Go.Proofs.YtphddbijdfmpjaaDoorW.PrintWords Go.Proofs.YtphddbijdfmpjaaDoorW.PrintLast Go.Proofs.YtphddbijdfmpjaaDoor.Q
open Go.ChangeMaps (setBlock)
set_option linter.unusedVariables false
set_option linter.unusedSimpArgs false
theorem blk_put4 {w : World} {g : Nat} {a0 a1 a2 a3 b0 b1 b2 b3 : Value} (h : w.heap[g]? = some (.cells #[a0, a1, a2, a3] 27 (0, 0))) :
    ((((w.setCell ⟨g, 0, none⟩ b0).setCell ⟨g, 1, none⟩ b1).setCell ⟨g, 2, none⟩ b2).setCell ⟨g, 3, none⟩ b3).heap[g]? = some (.cells #[b0, b1, b2, b3] 27 (0, 0)) :=
  blk_put (blk_put (blk_put (blk_put h 0 b0 rfl) 1 b1 rfl) 2 b2 rfl) 3 b3 rfl
theorem below_put4 {B : Nat} {u w : World} {g : Nat} {b0 b1 b2 b3 : Value} (h : Below B u w) (hg : B ≤ g) :
    Below B u ((((w.setCell ⟨g, 0, none⟩ b0).setCell ⟨g, 1, none⟩ b1).setCell ⟨g, 2, none⟩ b2).setCell ⟨g, 3, none⟩ b3) :=
  (((h.setCell (p := ⟨g, 0, none⟩) hg b0).setCell (p := ⟨g, 1, none⟩) hg b1).setCell (p := ⟨g, 2, none⟩) hg b2).setCell (p := ⟨g, 3, none⟩) hg b3
theorem heap_put4 {w : World} {g k : Nat} {b0 b1 b2 b3 : Value} (hk : k ≠ g) :
    ((((w.setCell ⟨g, 0, none⟩ b0).setCell ⟨g, 1, none⟩ b1).setCell ⟨g, 2, none⟩ b2).setCell ⟨g, 3, none⟩ b3).heap[k]? = w.heap[k]? := by
  rw [Below.heap_setCell _ _ _ _ hk, Below.heap_setCell _ _ _ _ hk, Below.heap_setCell _ _ _ _ hk, Below.heap_setCell _ _ _ _ hk]
set_option maxRecDepth 100000 in
set_option maxHeartbeats 8000000 in
theorem why_ok (w : World) (t b : Nat) (M : Tab) (s : ByteArray) (v : Int) (p : ByteArray) (hT : TB w t b M) (hG : Glob w) :
    Calls Tryd.prog 32 #[.pointer (some ⟨t, 0, none⟩), .string s, .int .i64 v, .string p] w fun e w' => (∃ c fd, e = .returned (.tuple #[eV c, .bool fd]) ∧ WhyIs M s v p c fd) ∧ Below w.heap.size w w' := by
  have hu27 := Tryd.underlying27
  have hu70 := Tryd.underlying70
  have key := verb_ok v
  have hal := (Below.refl w.heap.size w).alloc (Nat.le_refl _) (.cells #[.string ⟨#[]⟩, .string ⟨#[]⟩, .string ⟨#[]⟩, .int .i64 0] 27)
  have hnew := blk_new w (.cells #[.string ⟨#[]⟩, .string ⟨#[]⟩, .string ⟨#[]⟩, .int .i64 0] 27)
  have hG1 := Glob.below hG hal
  have hT1 := TB.below hT hal
  have AL := Lib.hid hal
  have NW := Lib.hid hnew
  have GL := Lib.hid hG1
  have TL := Lib.hid hT1
  clear hal hnew hG1 hT1 hT hG
  cases hv : isV v with
  | false =>
    have HV := Lib.hid hv
    rw [hv] at key
    have KEY := Lib.hid key
    clear key hv
    go_enter Tryd.func32, Tryd.ntmps32
    go_upto_region 1 with fail
    generalize w.alloc _ = w1 at AL NW GL TL ⊢
    go_upto_region 2 with (go_at_call 31; refine (KEY.out _).mono ?_; rintro e w2 ⟨rfl, hb2⟩; have B2 := Lib.hid (AL.out.trans (below_lower hb2 AL.out.size)); have N2 := Lib.hid (blk_below NW.out hb2); clear hb2)
    have hc0 := (blk_cell N2.out 0).trans rfl
    have hc1 := (blk_cell N2.out 1).trans rfl
    have hc2 := (blk_cell N2.out 2).trans rfl
    have hc3 := (blk_cell N2.out 3).trans rfl
    have hf0 := blk_frozen N2.out 0
    have hf1 := blk_frozen N2.out 1
    have hf2 := blk_frozen N2.out 2
    have hf3 := blk_frozen N2.out 3
    go_wp2
    have Z3 := Lib.hid (blk_put4 (b0 := .string ⟨#[]⟩) (b1 := .string ⟨#[]⟩) (b2 := .string ⟨#[]⟩) (b3 := .int .i64 0) N2.out)
    have B3 := Lib.hid (below_put4 (b0 := .string ⟨#[]⟩) (b1 := .string ⟨#[]⟩) (b2 := .string ⟨#[]⟩) (b3 := .int .i64 0) B2.out (Nat.le_refl _))
    clear hc0 hc1 hc2 hc3 hf0 hf1 hf2 hf3
    generalize World.setCell _ _ _ = w3 at Z3 B3 ⊢
    (try simp only [Exit.inBlock, Exit.then])
    refine bodyPost_ret (results_cell_row_tmp rfl _ _ w.heap.size 27 _ (0, 0) _ rfl Z3.out hu27 rfl (by kernel_rfl)) rfl ?_
    exact ⟨⟨zb, false, rfl, .inl ⟨rfl, rfl, by unfold whyB; rw [HV.out, Bool.false_and]⟩⟩, B3.out⟩
  | true =>
    have HV := Lib.hid hv
    rw [hv] at key
    have KEY := Lib.hid key
    have LN := Lib.hid (line_ok p)
    clear key hv
    go_enter Tryd.func32, Tryd.ntmps32
    go_upto_region 1 with fail
    generalize w.alloc _ = w1 at AL NW GL TL ⊢
    go_upto_region 3 with (go_at_call 31; refine (KEY.out _).mono ?_; rintro e w2 ⟨rfl, hb2⟩; have B2 := Lib.hid (AL.out.trans (below_lower hb2 AL.out.size)); have N2 := Lib.hid (blk_below NW.out hb2); have T2 := Lib.hid (TB.below TL.out hb2); have G2 := Lib.hid (Glob.below GL.out hb2); clear hb2)
    go_upto_region 5 with (go_at_call 12; refine (LN.out _ G2.out).mono ?_; rintro e w3 ⟨v0, rfl, hr, hb3⟩; obtain ⟨A0, c0, rfl⟩ := Kd.R_slice hr; have C3 := Aside0.mk (Kd.R_reads' hr).2.2; have B3 := Lib.hid (B2.out.trans (below_lower hb3 B2.out.size)); have N3 := Lib.hid (blk_below N2.out hb3); have T3 := Lib.hid (TB.below T2.out hb3); clear hb3 hr)
    clear AL NW GL TL B2 N2 T2 G2 KEY LN
    generalize (lineS p).2 = le
    obtain ⟨l, hl⟩ : ∃ l, l = (lineS p).1 := ⟨_, rfl⟩
    have HLL := Lib.hid (line_len p)
    rw [← hl] at C3 HLL ⊢
    have HL := Lib.hid hl
    clear hl
    go_loopg [29] l.length (fun g v29 wr => ∃ (i : Nat), v29 = .int .i64 (i : Int) ∧ Aside0 (i + g = l.length) ∧ Aside0 (∀ a ∈ l.take i, hasAt M s v a = false) ∧ Aside0 (Below w3.heap.size w3 wr))
    case atStart => exact ⟨0, rfl, ⟨by omega⟩, ⟨by simp⟩, ⟨Below.refl _ _⟩⟩
    case round =>
      obtain ⟨i, rfl, HG, HN, HBw⟩ := hrel
      by_cases hi : i < l.length
      · have hfc := Kd.at_string (Kd.C_below C3.out HBw.out) (i : Int) (by omega) (by omega)
        obtain ⟨ad, e115, hx115⟩ := hfc
        cases e115
        obtain ⟨q, hq⟩ : ∃ q, q = rdOf ByteArray.empty l (i : Int) := ⟨_, rfl⟩
        rw [← hq, Int.toNat_natCast] at hx115
        have HQ := Lib.hid (show l.take (i + 1) = l.take i ++ [q] ∧ l = l.take i ++ q :: l.drop (i + 1) by rw [hq, rd_at _ i hi]; exact ⟨List.take_succ_eq_append_getElem hi, by conv => lhs; rw [← List.take_append_drop i l, List.drop_eq_getElem_cons hi]⟩)
        clear hq
        have p115 : (0 ≤ (i : Int)) = True := eq_true (by omega)
        have q115 : ((i : Int) < (l.length : Int)) = True := eq_true (by omega)
        have qd : decide ((i : Int) < (l.length : Int)) = true := decide_eq_true (by omega)
        obtain ⟨g0, rfl⟩ : ∃ g0, gk = g0 + 1 := ⟨gk - 1, by have := HG.out; omega⟩
        have HI := Lib.hid hi
        clear hi
        go_upto_region 9 with fail
        have hbl := (Below.refl wr.heap.size wr).alloc (Nat.le_refl _) (.cells #[.string ⟨#[]⟩, .string ⟨#[]⟩, .string ⟨#[]⟩, .int .i64 0] 27)
        have B4 := Lib.hid (HBw.out.trans (below_lower hbl HBw.out.size))
        have T4 := Lib.hid (TB.belowB T3.out B4.out T3.out.lt.1 T3.out.lt.2)
        have Z4 := Lib.hid (blk_new wr (.cells #[.string ⟨#[]⟩, .string ⟨#[]⟩, .string ⟨#[]⟩, .int .i64 0] 27))
        obtain ⟨bb, hbb⟩ : ∃ bb, bb = wr.heap.size := ⟨_, rfl⟩
        have HBB := Lib.hid (show w3.heap.size ≤ bb by rw [hbb]; exact HBw.out.size)
        rw [← hbb] at Z4 ⊢
        clear hbl hx115 p115 q115 qd hbb
        generalize wr.alloc _ = w4 at B4 T4 Z4 ⊢
        obtain ⟨o4, hr4, hR4⟩ := T4.out.holds.range (P := Tryd.prog) (T := 66) (eT := 27) (kT := 70) Tryd.underlying66
        have hc4 := T4.out.cell
        have R4 := Aside0.mk hR4
        clear hR4
        go_upto_region 10 with fail
        have B5 := Aside0.mk (B4.out.alloc B4.out.size o4)
        have Z5 := Aside0.mk (blk_alloc Z4.out o4)
        obtain ⟨rr, hrr⟩ : ∃ rr, rr = w4.heap.size := ⟨_, rfl⟩
        have HRR := Lib.hid (show bb < rr by rw [hrr]; exact blk_lt Z4.out)
        rw [← hrr] at R4 ⊢
        clear hr4 hc4 hrr B4 T4 Z4
        generalize w4.alloc o4 = w5 at R4 B5 Z5 ⊢
        go_loopg [15] M.length (fun g v15 wq => ∃ (c : Bnd) (fd : Bool) (L : Tab), v15 = .bool fd ∧ L.length ≤ g ∧ Aside0 (Ranging eK eV wq b rr M L) ∧ Aside0 (wq.heap[bb]? = some (.cells #[.string c.path, .string c.name, .string c.subject, .int .i64 c.verb] 27 (0, 0))) ∧ Aside0 (Below w3.heap.size w3 wq) ∧ Aside0 (Best M L s v q c fd))
        case atStart => exact ⟨zb, false, M, rfl, Nat.le_refl _, R4, Z5, B5, ⟨Best.start M s v q⟩⟩
        case round =>
          clear R4 Z5 B5
          obtain ⟨c, fd, L, rfl, hg, HRg, HZ, HB, HBest⟩ := hrel
          rcases HRg.out.next (P := Tryd.prog) 0 with ⟨hL, hrun⟩ | ⟨A, pr, B, hL, wd, o2, hwd, hrun, hat⟩
          · subst hL
            cases fd with
            | false =>
              go_wp2
              go_roundg g0
              case measure => omega
              case rel => exact ⟨i + 1, by (have := HI.out; have := HLL.out; rw [w64 i (by omega)]), ⟨by have := HG.out; omega⟩, ⟨by rw [HQ.out.1]; intro a ha; rcases List.mem_append.1 ha with ha | ha; exact HN.out a ha; rw [List.mem_singleton.1 ha]; exact HBest.out.none⟩, HB⟩
            | true =>
              have N4 := Lib.hid ((HB.out.block _ (blk_lt N3.out)).trans N3.out)
              have hb0 := (blk_cell HZ.out 0).trans rfl
              have hb1 := (blk_cell HZ.out 1).trans rfl
              have hb2 := (blk_cell HZ.out 2).trans rfl
              have hb3 := (blk_cell HZ.out 3).trans rfl
              have hc0 := (blk_cell N4.out 0).trans rfl
              have hc1 := (blk_cell N4.out 1).trans rfl
              have hc2 := (blk_cell N4.out 2).trans rfl
              have hc3 := (blk_cell N4.out 3).trans rfl
              have hf0 := blk_frozen N4.out 0
              have hf1 := blk_frozen N4.out 1
              have hf2 := blk_frozen N4.out 2
              have hf3 := blk_frozen N4.out 3
              go_wp2
              have Z4 := Lib.hid (blk_put4 (b0 := .string c.path) (b1 := .string c.name) (b2 := .string c.subject) (b3 := .int .i64 c.verb) N4.out)
              have B4 := Lib.hid (below_put4 (b0 := .string c.path) (b1 := .string c.name) (b2 := .string c.subject) (b3 := .int .i64 c.verb) (B3.out.trans (below_lower HB.out B3.out.size)) (Nat.le_refl _))
              clear hc0 hc1 hc2 hc3 hf0 hf1 hf2 hf3 hb0 hb1 hb2 hb3
              generalize World.setCell _ _ _ = w6 at Z4 B4 ⊢
              (try simp only [Exit.inBlock, Exit.then])
              refine bodyPost_ret (results_cell_row_tmp rfl _ _ w.heap.size 27 _ (0, 0) _ rfl Z4.out hu27 rfl (by kernel_rfl)) rfl ?_
              refine ⟨⟨c, true, rfl, .inr ⟨rfl, HV.out, l.take i, q, l.drop (i + 1), ?_, HN.out, HBest.out.found⟩⟩, B4.out⟩
              rw [← HL.out]; exact HQ.out.2
          · subst hL
            cases gk with
            | zero => simp at hg
            | succ g =>
              have hent := hat.entry (P := Tryd.prog)
              have hbs : Below w3.heap.size w3 (setBlock wd rr o2) := by
                have hd : Below w3.heap.size w3 wd := by rcases hwd with rfl | rfl; exact HB.out; exact below_drew1 HB.out
                exact ⟨hd.os, hd.tape, hd.output, by rw [set_size]; exact hd.size, fun k hk => by rw [set_far _ _ _ _ (by have := HBB.out; have := HRR.out; omega)]; exact hd.block k hk⟩
              have hzs : (setBlock wd rr o2).heap[bb]? = some (.cells #[.string c.path, .string c.name, .string c.subject, .int .i64 c.verb] 27 (0, 0)) := by
                rw [set_far _ _ _ _ (by have := HRR.out; omega)]
                rcases hwd with rfl | rfl <;> exact HZ.out
              have hin := Ranging_in HRg.out (x := pr) (by simp)
              have HBS := Lib.hid hbs
              have HZS := Lib.hid hzs
              have HAT := Lib.hid hat
              have HIN := Lib.hid hin
              clear hbs hat hwd hzs hin HRg HZ HB
              unfold eK eV at hrun hent
              generalize setBlock wd rr o2 = w6 at HBS HZS HAT hrun hent
              obtain ⟨⟨kp, kn⟩, ⟨vp, vn, vs, vv⟩⟩ := pr
              go_upto_region 12 with fail
              have A7 := Aside0.mk (Ranging_alloc (Ranging_alloc HAT.out.on (.cells #[.string kp, .string kn] 70)) (.cells #[.string vp, .string vn, .string vs, .int .i64 vv] 27))
              have B7 := Aside0.mk ((HBS.out.alloc HBS.out.size (.cells #[.string kp, .string kn] 70)).alloc (HBS.out.alloc HBS.out.size (.cells #[.string kp, .string kn] 70)).size (.cells #[.string vp, .string vn, .string vs, .int .i64 vv] 27))
              have Z7 := Aside0.mk (blk_alloc (blk_alloc HZS.out (.cells #[.string kp, .string kn] 70)) (.cells #[.string vp, .string vn, .string vs, .int .i64 vv] 27))
              have K7 := Aside0.mk (blk_alloc (blk_new w6 (.cells #[.string kp, .string kn] 70)) (.cells #[.string vp, .string vn, .string vs, .int .i64 vv] 27))
              have V7 := Aside0.mk (blk_new (w6.alloc (.cells #[.string kp, .string kn] 70)) (.cells #[.string vp, .string vn, .string vs, .int .i64 vv] 27))
              rw [show (w6.alloc (.cells #[.string kp, .string kn] 70)).heap.size = w6.heap.size + 1 by simp] at V7
              obtain ⟨kk, hkk⟩ : ∃ kk, kk = w6.heap.size := ⟨_, rfl⟩
              obtain ⟨vb, hvb⟩ : ∃ vb, vb = w6.heap.size + 1 := ⟨_, rfl⟩
              rw [← hvb] at V7
              rw [← hkk] at K7
              rw [← hkk, show kk + 1 = vb by rw [hkk, hvb]]
              clear hkk hvb HAT HBS HZS hrun hent
              generalize World.alloc (World.alloc _ _) _ = w7 at A7 B7 Z7 K7 V7 ⊢
              have hk0 := (blk_cell K7.out 0).trans rfl
              have hv0 := (blk_cell V7.out 0).trans rfl
              have hv1 := (blk_cell V7.out 1).trans rfl
              have hv2 := (blk_cell V7.out 2).trans rfl
              have hv3 := (blk_cell V7.out 3).trans rfl
              have hb1 := (blk_cell Z7.out 1).trans rfl
              by_cases c1 : kp = q
              rotate_left
              · have e1 : (kp.toList == q.toList) = false := by rw [toList_beq, Bool.eq_false_iff, Ne, ba_beq]; exact c1
                go_wp2
                go_roundg g
                case measure => omega
                case rel => exact ⟨c, fd, A ++ B, rfl, by simp at hg ⊢; omega, A7, Z7, B7, ⟨HBest.out.skip (fun hm => absurd hm.1 c1)⟩⟩
              by_cases c2 : vs = s
              rotate_left
              · have e1 : (kp.toList == q.toList) = true := by rw [toList_beq, ba_beq]; exact c1
                have e2 : (vs.toList == s.toList) = false := by rw [toList_beq, Bool.eq_false_iff, Ne, ba_beq]; exact c2
                go_wp2
                go_roundg g
                case measure => omega
                case rel => exact ⟨c, fd, A ++ B, rfl, by simp at hg ⊢; omega, A7, Z7, B7, ⟨HBest.out.skip (fun hm => absurd hm.2.1 c2)⟩⟩
              by_cases c3 : v ≤ vv
              rotate_left
              · have e1 : (kp.toList == q.toList) = true := by rw [toList_beq, ba_beq]; exact c1
                have e2 : (vs.toList == s.toList) = true := by rw [toList_beq, ba_beq]; exact c2
                have e3 : decide (vv ≥ v) = false := decide_eq_false c3
                go_wp2
                go_roundg g
                case measure => omega
                case rel => exact ⟨c, fd, A ++ B, rfl, by simp at hg ⊢; omega, A7, Z7, B7, ⟨HBest.out.skip (fun hm => absurd hm.2.2 (by first | exact c3 | exact Int.not_le.2 c3))⟩⟩
              have e1 : (kp.toList == q.toList) = true := by rw [toList_beq, ba_beq]; exact c1
              have e2 : (vs.toList == s.toList) = true := by rw [toList_beq, ba_beq]; exact c2
              have e3 : decide (vv ≥ v) = true := decide_eq_true c3
              subst c2
              have hb0 := (blk_cell Z7.out 0).trans rfl
              have hb2 := (blk_cell Z7.out 2).trans rfl
              have hb3 := (blk_cell Z7.out 3).trans rfl
              have hf0 := blk_frozen Z7.out 0
              have hf1 := blk_frozen Z7.out 1
              have hf2 := blk_frozen Z7.out 2
              have hf3 := blk_frozen Z7.out 3
              cases fd with
              | false =>
                go_wp2
                go_roundg g
                case measure => omega
                case rel => exact ⟨⟨vp, vn, _, vv⟩, true, A ++ B, rfl, by simp at hg ⊢; omega, ⟨A7.out.move (heap_put4 (by have := HBB.out; have := T3.out.lt.2; omega)) (heap_put4 (by have := HRR.out; omega))⟩, ⟨blk_put4 Z7.out⟩, ⟨below_put4 B7.out HBB.out⟩, ⟨HBest.out.take HIN.out ⟨c1, rfl, c3⟩ (fun h => (by cases h))⟩⟩
              | true =>
                cases e4 : Op.bytesLess vn.toList c.name.toList with
                | true =>
                  go_wp2
                  go_roundg g
                  case measure => omega
                  case rel => exact ⟨⟨vp, vn, _, vv⟩, true, A ++ B, rfl, by simp at hg ⊢; omega, ⟨A7.out.move (heap_put4 (by have := HBB.out; have := T3.out.lt.2; omega)) (heap_put4 (by have := HRR.out; omega))⟩, ⟨blk_put4 Z7.out⟩, ⟨below_put4 B7.out HBB.out⟩, ⟨HBest.out.take HIN.out ⟨c1, rfl, c3⟩ (fun _ => e4)⟩⟩
                | false =>
                  go_wp2
                  go_roundg g
                  case measure => omega
                  case rel => exact ⟨c, true, A ++ B, rfl, by simp at hg ⊢; omega, A7, Z7, B7, ⟨HBest.out.skip (fun hm => ⟨rfl, e4⟩)⟩⟩
      · have qd : decide ((i : Int) < (l.length : Int)) = false := decide_eq_false (by omega)
        have HI := Lib.hid hi
        clear hi
        have N4 := Lib.hid ((HBw.out.block _ (blk_lt N3.out)).trans N3.out)
        have hc0 := (blk_cell N4.out 0).trans rfl
        have hc1 := (blk_cell N4.out 1).trans rfl
        have hc2 := (blk_cell N4.out 2).trans rfl
        have hc3 := (blk_cell N4.out 3).trans rfl
        have hf0 := blk_frozen N4.out 0
        have hf1 := blk_frozen N4.out 1
        have hf2 := blk_frozen N4.out 2
        have hf3 := blk_frozen N4.out 3
        go_wp2
        have Z4 := Lib.hid (blk_put4 (b0 := .string ⟨#[]⟩) (b1 := .string ⟨#[]⟩) (b2 := .string ⟨#[]⟩) (b3 := .int .i64 0) N4.out)
        have B4 := Lib.hid (below_put4 (b0 := .string ⟨#[]⟩) (b1 := .string ⟨#[]⟩) (b2 := .string ⟨#[]⟩) (b3 := .int .i64 0) (B3.out.trans (below_lower HBw.out B3.out.size)) (Nat.le_refl _))
        clear hc0 hc1 hc2 hc3 hf0 hf1 hf2 hf3
        generalize World.setCell _ _ _ = w4 at Z4 B4 ⊢
        (try simp only [Exit.inBlock, Exit.then])
        refine bodyPost_ret (results_cell_row_tmp rfl _ _ w.heap.size 27 _ (0, 0) _ rfl Z4.out hu27 rfl (by kernel_rfl)) rfl ?_
        refine ⟨⟨zb, false, rfl, .inl ⟨rfl, rfl, ?_⟩⟩, B4.out⟩
        unfold whyB
        rw [HV.out, Bool.true_and, ← HL.out, List.any_eq_false]
        intro a ha
        rw [HN.out a (by rw [List.take_of_length_le (by have := HI.out; omega)]; exact ha)]
        decide
end Go.Proofs.YtphddbijdfmpjaaDoor.Wr
namespace Go.Proofs.YtphddbijdfmpjaaDoor.Wr
open Go.RowKit Go.MapRaw Go.Proofs.YtphddbijdfmpjaaDoorW.PrintWords Go.Proofs.YtphddbijdfmpjaaDoorW.PrintLast Go.Proofs.YtphddbijdfmpjaaDoor.Q
open Go.ChangeMaps (setBlock)
set_option linter.unusedVariables false
set_option linter.unusedSimpArgs false
theorem root_list : ([114, 111, 111, 116] : List UInt8) = rootS.toList := by rw [ByteArray.toList_eq]; rfl
set_option maxRecDepth 100000 in
set_option maxHeartbeats 8000000 in
theorem may_ok (w : World) (t b : Nat) (M : Tab) (s : ByteArray) (v : Int) (p : ByteArray) (hT : TB w t b M) (hG : Glob w) :
    Calls Tryd.prog 13 #[.pointer (some ⟨t, 0, none⟩), .string s, .int .i64 v, .string p] w fun e w' => e = .returned (.bool (mayB M s v p)) ∧ Below w.heap.size w w' := by
  have hu27 := Tryd.underlying27
  by_cases hs : s = rootS
  · have hM : mayB M s v p = (isV v && decide (pathS p = 0)) := by unfold mayB; rw [if_pos hs]
    rw [hM]
    have hr : (s.toList == ([114, 111, 111, 116] : List UInt8)) = true := by rw [root_list, toList_beq, ba_beq]; exact hs
    have key := verb_ok v
    have hp := path_ok p
    have GL := Lib.hid hG
    clear hM hT hs hG
    cases hv : isV v with
    | false =>
      rw [hv] at key
      have KEY := Lib.hid key
      clear hp key hv
      go_enter Tryd.func13, Tryd.ntmps13
      go_wp2_with (go_at_call 31; refine (KEY.out _).mono ?_; rintro e w2 ⟨rfl, hb2⟩; have B2 := Lib.hid hb2; clear hb2)
      go_ret
      exact ⟨rfl, B2.out⟩
    | true =>
      rw [hv] at key
      have KEY := Lib.hid key
      have PK := Lib.hid hp
      clear hp key hv
      rcases line_cases p with ⟨h0, _⟩ | ⟨h0, _⟩
      · rw [h0] at PK ⊢
        go_enter Tryd.func13, Tryd.ntmps13
        go_wp2_with (first | (go_at_call 31; refine (KEY.out _).mono ?_; rintro e w2 ⟨rfl, hb2⟩; have B2 := Lib.hid hb2; clear hb2) | (go_at_call 19; refine (PK.out _ (Glob.below GL.out B2.out)).mono ?_; rintro e w3 ⟨rfl, hb3⟩; have B3 := Lib.hid (B2.out.trans (below_lower hb3 B2.out.size)); clear hb3))
        go_ret
        exact ⟨rfl, B3.out⟩
      · rw [h0] at PK ⊢
        go_enter Tryd.func13, Tryd.ntmps13
        go_wp2_with (first | (go_at_call 31; refine (KEY.out _).mono ?_; rintro e w2 ⟨rfl, hb2⟩; have B2 := Lib.hid hb2; clear hb2) | (go_at_call 19; refine (PK.out _ (Glob.below GL.out B2.out)).mono ?_; rintro e w3 ⟨rfl, hb3⟩; have B3 := Lib.hid (B2.out.trans (below_lower hb3 B2.out.size)); clear hb3))
        go_ret
        exact ⟨rfl, B3.out⟩
  · have hM : mayB M s v p = whyB M s v p := by unfold mayB; rw [if_neg hs]
    rw [hM]
    have hr : (s.toList == ([114, 111, 111, 116] : List UInt8)) = false := by rw [root_list, toList_beq, Bool.eq_false_iff, Ne, ba_beq]; exact hs
    have KEY := Lib.hid (why_ok w t b M s v p hT hG)
    clear hM hT hs hG
    go_enter Tryd.func13, Tryd.ntmps13
    go_wp2_with (go_at_call 32; refine KEY.out.mono ?_; rintro e w2 ⟨⟨⟨cp, cn, cs, cv⟩, fd, rfl, hw⟩, hb2⟩; have HF := Lib.hid hw.found; have B2 := Lib.hid hb2; unfold eV; clear hb2 hw)
    go_ret
    exact ⟨by rw [← HF.out] <;> rfl, B2.out.trans (below_lower ((Below.refl _ _).alloc (Nat.le_refl _) _) B2.out.size)⟩
end Go.Proofs.YtphddbijdfmpjaaDoor.Wr
namespace Go.Proofs.YtphddbijdfmpjaaDoor.Wr
open Go.RowKit Go.MapRaw Go.Proofs.YtphddbijdfmpjaaDoorW.PrintWords Go.Proofs.YtphddbijdfmpjaaDoorW.PrintLast Go.Proofs.YtphddbijdfmpjaaDoor.Q
open Go.ChangeMaps (setBlock)
set_option linter.unusedVariables false
set_option linter.unusedSimpArgs false
def b0 : Bnd := ⟨⟨#[47, 97]⟩, ⟨#[119]⟩, ⟨#[97, 110, 110]⟩, 1⟩
def M0 : Tab := [((⟨#[47, 97]⟩, ⟨#[119]⟩), b0)]
theorem b0_formed : formedB b0 = true := by decide +kernel
theorem set_b0 : setE [] b0 = 0 := by unfold setE; rw [if_pos b0_formed, if_neg (by decide)]
theorem setM_b0 : setM [] b0 = M0 := by unfold setM; rw [if_pos set_b0]; rfl
theorem drop_b0 : dropE M0 ⟨#[47, 97]⟩ ⟨#[119]⟩ = 0 := by decide +kernel
theorem dropM_b0 : dropM M0 ⟨#[47, 97]⟩ ⟨#[119]⟩ = [] := by unfold dropM; rw [if_pos drop_b0]; decide +kernel
theorem may1 : mayB M0 ⟨#[97, 110, 110]⟩ 0 ⟨#[47, 97, 47, 98]⟩ = true := by decide +kernel
theorem may2 : mayB M0 ⟨#[97, 110, 110]⟩ 1 ⟨#[47, 97]⟩ = true := by decide +kernel
theorem may3 : mayB M0 ⟨#[97, 110, 110]⟩ 2 ⟨#[47, 97]⟩ = false := by decide +kernel
theorem may4 : mayB M0 ⟨#[97, 110, 110]⟩ 0 ⟨#[47, 97, 98]⟩ = false := by decide +kernel
theorem may5 : mayB M0 ⟨#[98, 111, 98]⟩ 0 ⟨#[47, 97]⟩ = false := by decide +kernel
theorem may6 : mayB [] ⟨#[97, 110, 110]⟩ 0 ⟨#[47, 97]⟩ = false := by decide +kernel
theorem may7 : mayB [] ⟨#[114, 111, 111, 116]⟩ 3 ⟨#[47, 97]⟩ = true := by decide +kernel
end Go.Proofs.YtphddbijdfmpjaaDoor.Wr
namespace Go.Proofs.YtphddbijdfmpjaaDoor.Wr
open Go.RowKit Go.MapRaw Go.Proofs.YtphddbijdfmpjaaDoorW.PrintWords Go.Proofs.YtphddbijdfmpjaaDoorW.PrintLast Go.Proofs.YtphddbijdfmpjaaDoor.Q
open Go.ChangeMaps (setBlock)
set_option linter.unusedVariables false
set_option linter.unusedSimpArgs false
theorem may_lit {ar : Array Value} {w : World} {x y : Bool} (h : Calls Tryd.prog 13 ar w fun e w' => e = .returned (.bool x) ∧ Below w.heap.size w w') (e : x = y) : Calls Tryd.prog 13 ar w fun e w' => e = .returned (.bool y) ∧ Below w.heap.size w w' := by rw [← e]; exact h
theorem set_lit {w : World} {t b : Nat} (hT : TB w t b []) (hG : Glob w) : Calls Tryd.prog 20 #[.pointer (some ⟨t, 0, none⟩), .agg #[.string ⟨#[47, 97]⟩, .string ⟨#[119]⟩, .string ⟨#[97, 110, 110]⟩, .int .i64 1]] w fun e w' => e = .returned (.int .i64 0) ∧ TB w' t b M0 ∧ Off b w w' := by
  have h := set_ok w t b [] b0 hT hG (by simp)
  rw [set_b0, setM_b0] at h
  exact h
theorem drop_lit {w : World} {t b : Nat} (hT : TB w t b M0) (hG : Glob w) : Calls Tryd.prog 21 #[.pointer (some ⟨t, 0, none⟩), .string ⟨#[47, 97]⟩, .string ⟨#[119]⟩] w fun e w' => e = .returned (.int .i64 0) ∧ TB w' t b [] ∧ Off b w w' := by
  have h := drop_ok w t b M0 ⟨#[47, 97]⟩ ⟨#[119]⟩ hT hG
  rw [drop_b0, dropM_b0] at h
  exact h
set_option maxRecDepth 100000 in
set_option maxHeartbeats 8000000 in
theorem lives_ok (w : World) (hG : Glob w) : Calls Tryd.prog 10 #[] w fun e w' => ∃ t b, e = .returned (.pointer (some ⟨t, 0, none⟩)) ∧ TB w' t b [] ∧ w.heap.size ≤ t ∧ w.heap.size ≤ b ∧ Below w.heap.size w w' := by
  have NEW := Lib.hid (newT_ok w)
  have K1 := Lib.hid (fun t b w' (hT : TB w' t b M0) hG => may_lit (may_ok w' t b M0 ⟨#[97, 110, 110]⟩ 0 ⟨#[47, 97, 47, 98]⟩ hT hG) may1)
  have K2 := Lib.hid (fun t b w' (hT : TB w' t b M0) hG => may_lit (may_ok w' t b M0 ⟨#[97, 110, 110]⟩ 1 ⟨#[47, 97]⟩ hT hG) may2)
  have K3 := Lib.hid (fun t b w' (hT : TB w' t b M0) hG => may_lit (may_ok w' t b M0 ⟨#[97, 110, 110]⟩ 2 ⟨#[47, 97]⟩ hT hG) may3)
  have K4 := Lib.hid (fun t b w' (hT : TB w' t b M0) hG => may_lit (may_ok w' t b M0 ⟨#[97, 110, 110]⟩ 0 ⟨#[47, 97, 98]⟩ hT hG) may4)
  have K5 := Lib.hid (fun t b w' (hT : TB w' t b M0) hG => may_lit (may_ok w' t b M0 ⟨#[98, 111, 98]⟩ 0 ⟨#[47, 97]⟩ hT hG) may5)
  have K6 := Lib.hid (fun t b w' (hT : TB w' t b []) hG => may_lit (may_ok w' t b [] ⟨#[97, 110, 110]⟩ 0 ⟨#[47, 97]⟩ hT hG) may6)
  have K7 := Lib.hid (fun t b w' (hT : TB w' t b []) hG => may_lit (may_ok w' t b [] ⟨#[114, 111, 111, 116]⟩ 3 ⟨#[47, 97]⟩ hT hG) may7)
  go_enter Tryd.func10, Tryd.ntmps10
  go_upto_region 2 with (go_at_call 29; refine NEW.out.mono ?_; rintro e w1 ⟨t, b, rfl, hT, ht, hb, hb1⟩; have B1 := Lib.hid hb1; have T1 := Lib.hid hT; have HT := Lib.hid ht; have HB := Lib.hid hb; clear hT ht hb hb1)
  clear NEW
  go_upto_region 4 with (go_at_call 20; refine (set_lit T1.out (Glob.below hG B1.out)).mono ?_; rintro e w2 ⟨rfl, hT, ho⟩; have B2 := Lib.hid (B1.out.trans (ho.belowB HB.out B1.out.size)); have T2 := Lib.hid hT; clear hT ho T1)
  replace K1 := Lib.hid (K1.out t b)
  replace K2 := Lib.hid (K2.out t b)
  replace K3 := Lib.hid (K3.out t b)
  replace K4 := Lib.hid (K4.out t b)
  replace K5 := Lib.hid (K5.out t b)
  replace K6 := Lib.hid (K6.out t b)
  replace K7 := Lib.hid (K7.out t b)
  go_upto_region 6 with (first
    | (go_at_call 13; (with_reducible refine (K1.out _ T2.out (Glob.below hG B2.out)).mono ?_); rintro e w3 ⟨rfl, hb⟩; have B3 := Lib.hid (B2.out.trans (below_lower hb B2.out.size)); have T3 := Lib.hid (T2.out.below hb); clear hb T2)
    | (go_at_call 13; (with_reducible refine (K2.out _ T3.out (Glob.below hG B3.out)).mono ?_); rintro e w4 ⟨rfl, hb⟩; have B4 := Lib.hid (B3.out.trans (below_lower hb B3.out.size)); have T4 := Lib.hid (T3.out.below hb); clear hb T3)
    | (go_at_call 13; (with_reducible refine (K3.out _ T4.out (Glob.below hG B4.out)).mono ?_); rintro e w5 ⟨rfl, hb⟩; have B5 := Lib.hid (B4.out.trans (below_lower hb B4.out.size)); have T5 := Lib.hid (T4.out.below hb); clear hb T4)
    | (go_at_call 13; (with_reducible refine (K4.out _ T5.out (Glob.below hG B5.out)).mono ?_); rintro e w6 ⟨rfl, hb⟩; have B6 := Lib.hid (B5.out.trans (below_lower hb B5.out.size)); have T6 := Lib.hid (T5.out.below hb); clear hb T5)
    | (go_at_call 13; (with_reducible refine (K5.out _ T6.out (Glob.below hG B6.out)).mono ?_); rintro e w7 ⟨rfl, hb⟩; have B7 := Lib.hid (B6.out.trans (below_lower hb B6.out.size)); have T7 := Lib.hid (T6.out.below hb); clear hb T6))
  go_wp2_with (first
    | (go_at_call 21; refine (drop_lit T7.out (Glob.below hG B7.out)).mono ?_; rintro e w8 ⟨rfl, hT, ho⟩; have B8 := Lib.hid (B7.out.trans (ho.belowB HB.out B7.out.size)); have T8 := Lib.hid hT; clear hT ho T7)
    | (go_at_call 13; (with_reducible refine (K6.out _ T8.out (Glob.below hG B8.out)).mono ?_); rintro e w9 ⟨rfl, hb⟩; have B9 := Lib.hid (B8.out.trans (below_lower hb B8.out.size)); have T9 := Lib.hid (T8.out.below hb); clear hb T8)
    | (go_at_call 13; (with_reducible refine (K7.out _ T9.out (Glob.below hG B9.out)).mono ?_); rintro e w10 ⟨rfl, hb⟩; have B10 := Lib.hid (B9.out.trans (below_lower hb B9.out.size)); have T10 := Lib.hid (T9.out.below hb); clear hb T9))
  go_ret
  exact ⟨t, b, rfl, T10.out, HT.out, HB.out, B10.out⟩
end Go.Proofs.YtphddbijdfmpjaaDoor.Wr
namespace Go.Proofs.YtphddbijdfmpjaaDoor.Wr
end Go.Proofs.YtphddbijdfmpjaaDoor.Wr
namespace Go.Proofs.YtphddbijdfmpjaaDoor.Q
open Go.RowKit Go.Proofs.YtphddbijdfmpjaaDoorW.PrintWords Go.Proofs.YtphddbijdfmpjaaDoorW.PrintLast Go.ChangeShapes Go.Proofs.YtphddbijdfmpjaaDoor.Wr
set_option linter.unusedVariables false
set_option linter.unusedSimpArgs false
def k27 : Kd Bnd := Kd.iso (Kd.pair Kd.string (Kd.pair Kd.string (Kd.pair Kd.string (Kd.int .i64)))) (fun b => (b.path, b.name, b.subject, b.verb))
section
variable {H : Type} {enc : TypeId × Value → H} {w : World} {base : Nat} {spare : Nat → Bool} {held : Bool}
end
end Go.Proofs.YtphddbijdfmpjaaDoor.Q
namespace Go.Proofs
open Go.Shelf
def Tryd.sortB_ren : Go.Shelf.Ren := ⟨fun | 6 => 38 | 15 => 57 | 14 => 56 | 28 => 82 | 29 => 83 | 20 => 74 | 21 => 75 | 22 => 76 | 23 => 77 | 24 => 78 | 25 => 79 | 26 => 80 | 27 => 81 | 46 => 94 | 47 => 95 | 48 => 96 | 49 => 97 | 50 => 98 | 57 => 102 | n => n, fun | 22 => 36 | 24 => 27 | 25 => 77 | 3 => 3 | 39 => 89 | 0 => 0 | 53 => 110 | 55 => 112 | 4 => 4 | 46 => 103 | 45 => 102 | 50 => 107 | 5 => 5 | 9 => 9 | 66 => 123 | 70 => 127 | 76 => 131 | 77 => 132 | n => n, fun | n => n⟩
theorem Tryd.sortB : Go.Proofs.SlLaysF0.n6 Tryd.prog Tryd.sortB_ren := {
  mixed := by kernel_rfl
  f6 := ⟨Tryd.f38.name, by decide, Tryd.func38.trans (congrArg some (by kernel_rfl))⟩
  f14 := ⟨Tryd.f56.name, by decide, Tryd.func56.trans (congrArg some (by kernel_rfl))⟩
  f15 := Tryd.func57.trans (congrArg some (by kernel_rfl))
  f20 := ⟨Tryd.f74.name, by decide, Tryd.func74.trans (congrArg some (by kernel_rfl))⟩
  f21 := ⟨Tryd.f75.name, by decide, Tryd.func75.trans (congrArg some (by kernel_rfl))⟩
  f22 := ⟨Tryd.f76.name, by decide, Tryd.func76.trans (congrArg some (by kernel_rfl))⟩
  f23 := ⟨Tryd.f77.name, by decide, Tryd.func77.trans (congrArg some (by kernel_rfl))⟩
  f24 := ⟨Tryd.f78.name, by decide, Tryd.func78.trans (congrArg some (by kernel_rfl))⟩
  f25 := ⟨Tryd.f79.name, by decide, Tryd.func79.trans (congrArg some (by kernel_rfl))⟩
  f26 := ⟨Tryd.f80.name, by decide, Tryd.func80.trans (congrArg some (by kernel_rfl))⟩
  f27 := ⟨Tryd.f81.name, by decide, Tryd.func81.trans (congrArg some (by kernel_rfl))⟩
  f28 := Tryd.func82.trans (congrArg some (by kernel_rfl))
  f29 := Tryd.func83.trans (congrArg some (by kernel_rfl))
  f46 := ⟨Tryd.f94.name, by decide, Tryd.func94.trans (congrArg some (by kernel_rfl))⟩
  f47 := Tryd.func95.trans (congrArg some (by kernel_rfl))
  f48 := Tryd.func96.trans (congrArg some (by kernel_rfl))
  f49 := ⟨Tryd.f97.name, by decide, Tryd.func97.trans (congrArg some (by kernel_rfl))⟩
  f50 := ⟨Tryd.f98.name, by decide, Tryd.func98.trans (congrArg some (by kernel_rfl))⟩
  f57 := ⟨Tryd.f102.name, by decide, Tryd.func102.trans (congrArg some (by kernel_rfl))⟩
  t0 := Tryd.underlying0
  a0 := Tryd.isAgg0
  z0 := Tryd.sizeOf0
  v0 := Tryd.zeroValue0
  t3 := Tryd.underlying3
  a3 := Tryd.isAgg3
  z3 := Tryd.sizeOf3
  v3 := Tryd.zeroValue3
  t4 := Tryd.underlying4
  a4 := Tryd.isAgg4
  z4 := Tryd.sizeOf4
  v4 := Tryd.zeroValue4
  t5 := Tryd.underlying5
  a5 := Tryd.isAgg5
  z5 := Tryd.sizeOf5
  v5 := Tryd.zeroValue5
  t9 := Tryd.underlying9
  a9 := Tryd.isAgg9
  z9 := Tryd.sizeOf9
  v9 := Tryd.zeroValue9
  t22 := Tryd.underlying36
  a22 := Tryd.isAgg36
  z22 := Tryd.sizeOf36
  v22 := Tryd.zeroValue36
  t25 := Tryd.underlying77
  a25 := Tryd.isAgg77
  z25 := Tryd.sizeOf77
  v25 := Tryd.zeroValue77
  t39 := Tryd.underlying89
  a39 := Tryd.isAgg89
  z39 := Tryd.sizeOf89
  v39 := Tryd.zeroValue89
  t45 := Tryd.underlying102
  a45 := Tryd.isAgg102
  z45 := Tryd.sizeOf102
  v45 := Tryd.zeroValue102
  t46 := Tryd.underlying103
  a46 := Tryd.isAgg103
  z46 := Tryd.sizeOf103
  v46 := Tryd.zeroValue103
  t50 := Tryd.underlying107
  a50 := Tryd.isAgg107
  z50 := Tryd.sizeOf107
  v50 := Tryd.zeroValue107
  t53 := Tryd.underlying110
  a53 := Tryd.isAgg110
  z53 := Tryd.sizeOf110
  v53 := Tryd.zeroValue110
  t55 := Tryd.underlying112
  a55 := Tryd.isAgg112
  z55 := Tryd.sizeOf112
  v55 := Tryd.zeroValue112
  t66 := Tryd.underlying123
  a66 := Tryd.isAgg123
  z66 := Tryd.sizeOf123
  v66 := Tryd.zeroValue123
  t70 := Tryd.underlying127
  a70 := Tryd.isAgg127
  z70 := Tryd.sizeOf127
  v70 := Tryd.zeroValue127
  t76 := Tryd.underlying131
  a76 := Tryd.isAgg131
  z76 := Tryd.sizeOf131
  v76 := Tryd.zeroValue131
  t77 := Tryd.underlying132
  a77 := Tryd.isAgg132
  z77 := Tryd.sizeOf132
  v77 := Tryd.zeroValue132 }
end Go.Proofs
namespace Go.Proofs.YtphddbijdfmpjaaDoor.Q
open Go.RowKit Go.Lib Go.Sort Go.Shelf Go.Proofs.YtphddbijdfmpjaaDoorW.PrintWords Go.Proofs.YtphddbijdfmpjaaDoorW.PrintLast Go.Proofs.YtphddbijdfmpjaaDoor.Wr
set_option linter.unusedVariables false
set_option linter.unusedSimpArgs false
instance : Inhabited Bnd := ⟨zb⟩
def encB (x : Bnd) : List Value := [.string x.path, .string x.name, .string x.subject, .int .i64 x.verb]
theorem ltB (x y : Bnd) : ltOf cmpB x y = decide (cmpB x y < 0) := rfl
theorem swoB : SWO (ltOf cmpB) where
  irrefl x := by rw [ltB, ordB.self]; rfl
  trans x y z h1 h2 := by
    rw [ltB, decide_eq_true_eq] at *
    exact ordB.lt_le h1 (by omega)
  ntrans x y z h1 h2 := by
    rw [ltB, decide_eq_false_iff_not] at *
    have e1 := ordB.neg x y
    have e2 := ordB.neg y z
    have e3 := ordB.neg x z
    have := ordB.le z y x (by omega) (by omega)
    omega
theorem glob_size {w : World} (h : Glob w) : 2 ≤ w.heap.size := by
  obtain ⟨m, hm⟩ := h.maxLen
  by_cases h1 : 1 < w.heap.size
  · exact h1
  · have : w.heap[1]? = none := Array.getElem?_eq_none (by omega)
    simp [World.cell?, this] at hm
theorem glob_grown {w w' : World} {g : Nat} (h : Glob w) (hg : w.grownBy w' (some g)) (h2 : 2 ≤ g) : Glob w' := by
  have hs := glob_size h
  obtain ⟨m, hm⟩ := h.maxLen
  refine ⟨⟨m, ?_⟩, ?_⟩
  · rw [World.cell?_of_block (w := w) (hg.block 1 (by omega) (fun e => by cases e; omega))]; exact hm
  · rw [World.cell?_of_block (w := w) (hg.block 0 (by omega) (fun e => by cases e; omega))]; exact h.letterB
theorem flat_get {xs : List Bnd} {t : Nat} (ht : t < xs.length * 4) : (flatK encB 4 xs.toArray).toList[t]? = (encB (xs.getD (t / 4) zb))[t % 4]? := by
  have hj : t / 4 < xs.length := by omega
  have h1 : (flatK encB 4 xs.toArray).toList[t]? = some ((encB (xs.toArray[t / 4]!))[t % 4]!) := by
    rw [Array.getElem?_toList]
    simp [flatK, ht]
  have h2 : xs.toArray[t / 4]! = xs.getD (t / 4) zb := by
    simp [List.getD_eq_getElem?_getD, hj]
  rw [h1, h2]
  have h3 : t % 4 = 0 ∨ t % 4 = 1 ∨ t % 4 = 2 ∨ t % 4 = 3 := by omega
  rcases h3 with h3 | h3 | h3 | h3 <;> rw [h3] <;> rfl
theorem flat_len (xs : List Bnd) : (flatK encB 4 xs.toArray).toList.length = xs.length * 4 := by simp
theorem k27_openM {w : World} {base : Nat} {ok : Nat → Prop} {x : Bnd} {cs : List Value} (h : k27.M w base ok x cs) : cs = encB x := by
  obtain ⟨b0, e0, rfl, g0, b1, e1, rfl, g1, b2, e2, rfl, g2, g3⟩ := h
  have g0' : b0 = [.string x.path] := g0
  have g1' : b1 = [.string x.name] := g1
  have g2' : b2 = [.string x.subject] := g2
  have g3' : e2 = [.int .i64 x.verb] := g3
  subst g0' g1' g2' g3'
  rfl
theorem k27_mkM (w : World) (base : Nat) (ok : Nat → Prop) (x : Bnd) : k27.M w base ok x (encB x) :=
  ⟨[.string x.path], [.string x.name, .string x.subject, .int .i64 x.verb], rfl, rfl, [.string x.name], [.string x.subject, .int .i64 x.verb], rfl, rfl, [.string x.subject], [.int .i64 x.verb], rfl, rfl, rfl⟩
theorem inner27 {w : World} {base : Nat} {ok : Nat → Prop} {xs : List Bnd} {inner : List Value} (h : Reps (k27.M w base ok) 4 xs inner) : inner = (flatK encB 4 xs.toArray).toList := by
  apply List.ext_getElem?
  intro t
  by_cases ht : t < xs.length * 4
  · have hj : t / 4 < xs.length := by omega
    have hk := k27_openM (h.2 (t / 4) _ (List.getElem?_eq_getElem hj))
    have h1 : inner[t]? = ((inner.drop (t / 4 * 4)).take 4)[t % 4]? := by
      rw [List.getElem?_take_of_lt (by omega), List.getElem?_drop]
      congr 1
      omega
    rw [h1, hk, flat_get ht]
    simp [encB, List.getD_eq_getElem?_getD, hj]
  · rw [List.getElem?_eq_none (by rw [h.1]; omega), List.getElem?_eq_none (by rw [flat_len]; omega)]
theorem reps27 (w : World) (base : Nat) (ok : Nat → Prop) (xs : List Bnd) : Reps (k27.M w base ok) 4 xs (flatK encB 4 xs.toArray).toList := by
  refine ⟨flat_len xs, fun j p hj => ?_⟩
  obtain ⟨hl, rfl⟩ := List.getElem?_eq_some_iff.1 hj
  have e : (((flatK encB 4 xs.toArray).toList.drop (j * 4)).take 4) = encB xs[j] := by
    apply List.ext_getElem?
    intro t
    by_cases ht : t < 4
    · rw [List.getElem?_take_of_lt ht, List.getElem?_drop, flat_get (by omega)]
      have h1 : (j * 4 + t) / 4 = j := by omega
      have h2 : (j * 4 + t) % 4 = t := by omega
      rw [h1, h2]
      simp [List.getD_eq_getElem?_getD, hl]
    · rw [List.getElem?_take_eq_none (by omega), List.getElem?_eq_none (by simp [encB]; omega)]
  rw [e]
  exact k27_mkM w base ok _
theorem holds27 {w : World} {g : Nat} {cur : Array Value} {e : TypeId} {xs : List Bnd} (hb : w.heap[g]? = some (.cells cur e (0, 0))) (ht : cur.toList.take (xs.length * 4) = (flatK encB 4 xs.toArray).toList) : HoldsK encB 4 w g 0 xs.toArray := by
  unfold HoldsK
  intro j hj
  have hj' : j < xs.length * 4 := by simpa using hj
  refine ⟨?_, by simp [World.frozen?, hb]⟩
  have h1 : (cur.toList.take (xs.length * 4))[j]? = (flatK encB 4 xs.toArray).toList[j]? := by rw [ht]
  rw [List.getElem?_take_of_lt hj'] at h1
  simp only [World.cell?, hb, Nat.zero_add]
  simp only [Option.isSome_none, Bool.false_eq_true, if_false]
  rw [← Array.getElem?_toList, h1, Array.getElem?_toList, Array.getElem?_eq_getElem hj, getElem!_pos _ j hj]
  rfl
theorem heap27 {w : World} {g n : Nat} {os : Array Obj} {cur : Array Value} {e : TypeId} {fr : Nat × Nat} (d : Array Bnd) (hb : w.heap[g]? = some (.cells cur e fr)) :
    (sortWorldK encB 4 w g 0 n d os).heap[g]? = some (.cells (putCells id 0 (flatK encB 4 d) cur) e fr) := by
  have hg : g < w.heap.size := (Array.getElem?_eq_some_iff.1 hb).1
  unfold sortWorldK putRowK
  rw [heap_grow_old _ _ (by simpa using hg)]
  simp [putRow, mapBlock, Sort.ahead, Array.getElem?_modify, hb, onCells]
theorem grown27 {w : World} {g n : Nat} {os : Array Obj} (d : Array Bnd) : w.grownBy (sortWorldK encB 4 w g 0 n d os) (some g) := by
  unfold sortWorldK putRowK
  refine ⟨rfl, rfl, rfl, by simp, fun k hk hne => ?_⟩
  rw [heap_grow_old _ _ (by simpa using hk)]
  have : g ≠ k := fun e => hne (by rw [e])
  simp [putRow, mapBlock, Sort.ahead, Array.getElem?_modify, this]
theorem take27 (cur : Array Value) (ts : List Bnd) (h : ts.length * 4 ≤ cur.size) : (putCells id 0 (flatK encB 4 ts.toArray) cur).toList.take (ts.length * 4) = (flatK encB 4 ts.toArray).toList := by
  apply List.ext_getElem?
  intro j
  by_cases hj : j < ts.length * 4
  · rw [List.getElem?_take_of_lt hj, Array.getElem?_toList, Array.getElem?_toList]
    simp [putCells, hj, show j < cur.size by omega]
  · rw [List.getElem?_take_eq_none (by omega), List.getElem?_eq_none (by rw [flat_len]; omega)]
theorem cmpLaysB (blk size : Nat) (w : World) (hG : Glob w) (h2 : 2 ≤ blk) : CmpLays Tryd.prog 39 #[] encB 4 cmpB blk 0 size w := by
  intro m os dk _ x y
  refine (cmp_ok x y _ (glob_grown hG (grown27 dk) h2)).mono ?_
  rintro e w' ⟨rfl, q, os', rfl⟩
  exact ⟨rfl, q, os', rfl⟩
theorem sort_calls (blk cap : Nat) (d : Array Bnd) (w : World) (hG : Glob w) (h2 : 2 ≤ blk) (hH : HoldsK encB 4 w blk 0 d) (hblk : blk < w.heap.size) (hsz : d.size < 4611686018427387904) :
    Calls Tryd.prog 38 #[.slice (some ⟨blk, 0, none⟩) d.size cap, .func (.func 39) #[] #[]] w fun e w' => e = .returned (.tuple #[]) ∧ ∃ d' n os, PermIn 0 d.size d d' ∧ SortedIn (ltOf cmpB) 0 d.size d' ∧ w' = sortWorldK encB 4 w blk 0 n d' os := by
  have eg : ∀ args w, (callFunc 39 args).run Tryd.prog w = .ok (.enter 39 args) w := enters_of Tryd.func39 (by kernel_rfl) rfl
  exact AnyQ.slices_SortFunc Tryd.sortB 4 Tryd.isAgg27 Tryd.sizeOf27 encB (fun _ => rfl) (fun x v hv => by simp [encB] at hv; rcases hv with rfl | rfl | rfl | rfl <;> rfl) cmpB swoB 39 #[] blk 0 cap d w eg (cmpLaysB blk d.size w hG h2) hH hblk hsz
def Rising (l : List Bnd) : Prop := l.Pairwise fun a b => cmpB a b ≤ 0
theorem sorted_is {xs : List Bnd} {d' : Array Bnd} (hp : PermIn 0 xs.toArray.size xs.toArray d') (hs : SortedIn (ltOf cmpB) 0 xs.toArray.size d') : d'.toList.Perm xs ∧ Rising d'.toList := by
  have hsz : d'.size = xs.length := by have := hp.1; simpa using this
  refine ⟨?_, ?_⟩
  · have := hp.2.2
    have e1 : d'.extract 0 xs.toArray.size = d' := by
      have : xs.toArray.size = d'.size := by simp [hsz]
      rw [this]
      exact Array.extract_size
    have e2 : xs.toArray.extract 0 xs.toArray.size = xs.toArray := Array.extract_size
    rw [e1, e2] at this
    simpa using this
  · unfold Rising
    rw [List.pairwise_iff_getElem]
    intro i j hi hj hij
    have := hs i j (Nat.zero_le _) hij (by simpa [hsz] using hj)
    rw [ltB, decide_eq_false_iff_not] at this
    have h3 : ¬ cmpB d'.toList[j] d'.toList[i] < 0 := by
      simpa [getElem!_pos, show i < d'.size by simpa using hi, show j < d'.size by simpa using hj] using this
    have := ordB.neg d'.toList[i] d'.toList[j]
    omega
theorem sort_row {w : World} {base : Nat} {ok : Nat → Prop} {v : Value} {xs : List Bnd} (HR : Kd.R k27 27 w base ok v xs) (hG : Glob w) (hb2 : 2 ≤ base) (hl : xs.length ≤ 1000000) :
    Calls Tryd.prog 38 #[v, .func (.func 39) #[] #[]] w fun e w' => e = .returned (.tuple #[]) ∧ ∃ L, L.Perm xs ∧ Rising L ∧ Kd.R k27 27 w' base ok v L ∧ w.grownBy w' v.ownBlock := by
  obtain ⟨h0, inner, ho, hi⟩ := HR
  rcases ho.2 with ⟨rfl, hn⟩ | ⟨g, cap, cur, rfl, hg, hb, h1, h2, h3, h4⟩
  · obtain rfl := List.eq_nil_of_length_eq_zero hn
    refine Calls.mono (AnyF.slices_SortFunc_none Tryd.sortB none 0 (.func (.func 39) #[] #[]) w) ?_
    rintro e w' ⟨rfl, rfl⟩
    exact ⟨rfl, [], .refl _, .nil, Kd.R_nil _ _ _ _ _, ⟨rfl, rfl, rfl, Nat.le_refl _, fun _ _ _ => rfl⟩⟩
  · have hin := inner27 hi
    have hH := holds27 hb (h4.trans hin)
    have hlt : g < w.heap.size := (Array.getElem?_eq_some_iff.1 hb).1
    have hc := sort_calls g cap xs.toArray w hG (by omega) hH hlt (by simp; omega)
    simp only [List.size_toArray] at hc
    refine hc.mono ?_
    rintro e w' ⟨rfl, d', n, os, hP, hS, rfl⟩
    have hd := sorted_is (by simpa using hP) (by simpa using hS)
    obtain ⟨L, hL⟩ : ∃ L, L = d'.toList := ⟨_, rfl⟩
    rw [← hL] at hd
    have hlen := hd.1.length_eq
    have hda : d' = L.toArray := by rw [hL]
    refine ⟨rfl, L, hd.1, hd.2, ⟨h0, (flatK encB 4 L.toArray).toList, ⟨flat_len L, .inr ⟨g, cap, _, by rw [hlen], hg, heap27 d' hb, by omega, h2, by simp [putCells, h3], ?_⟩⟩, reps27 _ _ _ L⟩, grown27 d'⟩
    rw [hda]
    exact take27 cur L (by rw [h3]; show L.length * 4 ≤ cap * 4; omega)
end Go.Proofs.YtphddbijdfmpjaaDoor.Q
namespace Go.Proofs.YtphddbijdfmpjaaDoor.Q
open Go.RowKit Go.MapRaw Go.Proofs.YtphddbijdfmpjaaDoorW.PrintWords Go.Proofs.YtphddbijdfmpjaaDoorW.PrintLast Go.Proofs.YtphddbijdfmpjaaDoor.Wr
open Go.ChangeMaps (setBlock)
set_option linter.unusedVariables false
set_option linter.unusedSimpArgs false
theorem info27 : (Tryd.prog.info? 27).map (fun i => (i.zero, i.size, i.bytes)) = some (some (.agg #[.string ⟨#[]⟩, .string ⟨#[]⟩, .string ⟨#[]⟩, .int .i64 0]), 4, 56) := by kernel_rfl
theorem perm_step (xs : List Bnd) (A B : Tab) (p : Key × Bnd) : ((xs ++ [p.2]) ++ (A ++ B).map fun p => p.2).Perm (xs ++ (A ++ p :: B).map fun p => p.2) := by
  rw [List.append_assoc]
  refine List.Perm.append_left _ ?_
  rw [List.map_append, List.map_append, List.map_cons]
  simp only [List.cons_append, List.nil_append]
  exact List.perm_middle.symm
def ListSays (M : Tab) (w : World) (e : Ending) (w' : World) : Prop := ∃ v L, e = .returned v ∧ L.Perm (M.map fun p => p.2) ∧ Rising L ∧ Kd.R k27 27 w' w.heap.size (fun _ => True) v L ∧ Below w.heap.size w w'
set_option maxRecDepth 100000 in
set_option maxHeartbeats 8000000 in
theorem list_ok (w : World) (t b : Nat) (M : Tab) (hT : TB w t b M) (hG : Glob w) (hM : M.length ≤ 1000000) :
    Calls Tryd.prog 17 #[.pointer (some ⟨t, 0, none⟩)] w fun e w' => ListSays M w e w' := by
  have hu27 := Tryd.underlying27
  obtain ⟨o, hr, hR⟩ := hT.holds.range (P := Tryd.prog) (T := 66) (eT := 27) (kT := 70) Tryd.underlying66
  have HRA := Aside0.mk hR
  have HM := Lib.hid hM
  have HT := Lib.hid hT
  have GL := Lib.hid hG
  have ht := hT.cell
  clear hT hR hM hG
  go_enter Tryd.func17, Tryd.ntmps17
  go_upto_region 3 with fail
  have HB1 := Aside0.mk ((Below.refl w.heap.size w).alloc (Nat.le_refl _) o)
  clear hr ht
  generalize w.alloc o = w1 at HB1 HRA ⊢
  obtain ⟨rr, hrr⟩ : ∃ rr, rr = w.heap.size := ⟨_, rfl⟩
  have HRR := Lib.hid hrr
  rw [← hrr] at HRA ⊢
  clear hrr
  go_loopg [3] M.length (fun g v3 wr => ∃ (xs : List Bnd) (L : Tab), L.length ≤ g ∧ Aside0 ((xs ++ L.map fun p => p.2).Perm (M.map fun p => p.2)) ∧ Aside0 (Kd.R k27 27 wr w.heap.size (fun k => k ≠ rr ∧ k ≠ b) v3 xs) ∧ Aside0 (Ranging eK eV wr b rr M L) ∧ Aside0 (Below w.heap.size w wr))
  case atStart => exact ⟨[], M, Nat.le_refl _, ⟨.refl _⟩, ⟨Kd.R_nil _ _ _ _ _⟩, HRA, HB1⟩
  case round =>
    clear HRA HB1
    obtain ⟨xs, L, hg, HP, HR, HRg, HB⟩ := hrel
    rcases HRg.out.next (P := Tryd.prog) 0 with ⟨hL, hrun⟩ | ⟨A, p, B, hL, wd, o2, hwd, hrun, hat⟩
    · subst hL
      have HLEN := Lib.hid (show xs.length ≤ 1000000 by have := HP.out.length_eq; simp at this; have := HM.out; omega)
      have SORT := Lib.hid (sort_row HR.out (GL.out.below HB.out) (glob_size GL.out) HLEN.out)
      go_wp2_with (go_at_call 38; refine SORT.out.mono ?_; rintro e w4 ⟨rfl, L2, hP2, hS2, hR2, hg2⟩; have HP2 := Lib.hid hP2; have HS2 := Lib.hid hS2; have HR2 := Lib.hid hR2; have HG2 := Lib.hid hg2; clear hP2 hS2 hR2 hg2)
      go_ret
      exact ⟨_, L2, rfl, HP2.out.trans (by have := HP.out; simpa using this), HS2.out, Kd.R_mono HR2.out (fun _ _ => trivial), HB.out.grown HG2.out HB.out.size (fun j hj => own_base HR.out.2.choose_spec.1 j hj)⟩
    · subst hL
      cases gk with
      | zero => simp at hg
      | succ g =>
        have hent := hat.entry (P := Tryd.prog)
        have hbs : Below w.heap.size w (setBlock wd rr o2) := below_setBlock (by rcases hwd with rfl | rfl; exact HB.out; exact below_drew1 HB.out) (by have := HRR.out; omega)
        have hrs : Kd.R k27 27 (setBlock wd rr o2) w.heap.size (fun k => k ≠ rr ∧ k ≠ b) u3 xs := Kd.R_move HR.out (fun k hk => by rw [set_far _ _ _ _ hk.1]; rcases hwd with rfl | rfl <;> rfl)
        have HBS := Lib.hid hbs
        have HRS := Lib.hid hrs
        have HAT := Lib.hid hat
        have HLX := Lib.hid (show xs.length ≤ 1000000 by have := HP.out.length_eq; simp at this; have := HM.out; omega)
        have HPN := Lib.hid (show ((xs ++ [p.2]) ++ (A ++ B).map fun p => p.2).Perm (M.map fun p => p.2) from (by
          refine List.Perm.trans ?_ HP.out
          exact perm_step xs A B p))
        clear hbs hat hwd hrs HRg HB HR HP
        unfold eK eV at hrun hent
        generalize setBlock wd rr o2 = w2 at HBS HRS HAT hrun hent
        obtain ⟨⟨kp, kn⟩, ⟨vp, vn, vs, vv⟩⟩ := p
        go_upto_region 5 with fail
        have HB3 := Aside0.mk (HBS.out.alloc HBS.out.size (.cells #[.string vp, .string vn, .string vs, .int .i64 vv] 27))
        have HR3 := Aside0.mk (Kd.R_alloc HRS.out (.cells #[.string vp, .string vn, .string vs, .int .i64 vv] 27))
        have HA3 := Aside0.mk (Ranging_alloc HAT.out.on (.cells #[.string vp, .string vn, .string vs, .int .i64 vv] 27))
        have HV3 := Aside0.mk (blk_new w2 (.cells #[.string vp, .string vn, .string vs, .int .i64 vv] 27))
        obtain ⟨vb, hvb⟩ : ∃ vb, vb = w2.heap.size := ⟨_, rfl⟩
        rw [← hvb] at HV3 ⊢
        clear hvb HBS HRS HAT hrun hent
        generalize w2.alloc _ = w3 at HB3 HR3 HA3 HV3 ⊢
        have hv0 := (blk_cell HV3.out 0).trans rfl
        have hv1 := (blk_cell HV3.out 1).trans rfl
        have hv2 := (blk_cell HV3.out 2).trans rfl
        have hv3 := (blk_cell HV3.out 3).trans rfl
        have HLT := Lib.hid (Ranging_lt HA3.out)
        go_wp2_with (first
          | ((with_reducible refine gate_builtin (b := .append) (xs := #[.tmp 15, .tmp 17]) rfl ?_); at_builtin; refine Kd.R_append k27 (w0 := w) w.heap.size rfl (.tmp 15) (.tmp 17) 36 27 (.agg #[.string ⟨#[]⟩, .string ⟨#[]⟩, .string ⟨#[]⟩, .int .i64 0]) 56 rfl Tryd.underlying36 info27 rfl (by decide) (by omega) u3 xs ⟨vp, vn, vs, vv⟩ [.string vp, .string vn, .string vs, .int .i64 vv] (fun k => k ≠ rr ∧ k ≠ b) (fun _ => False) rfl rfl ?aP (fun _ hk => hk.elim) ?aF ?aO ?aB ?aS ?aL ?_; (case aP => exact k27_mkM _ _ _ ⟨vp, vn, vs, vv⟩); (case aB => exact HB3.out); (case aF => exact (fun k hk => by have := HLT.out; constructor <;> omega)); (case aO => exact HR3.out); (case aS => exact HB3.out.size); (case aL => have := HLX.out; omega);
                intro v2 w4 ho hb2 hg2 hat2; have HO4 := Aside0.mk ho; have HB4 := Aside0.mk hb2; have HG4 := Lib.hid hg2; clear ho hb2 hg2 hat2))
        have HRG4 := Aside0.mk (HA3.out.move (HG4.out.block b HLT.out.1 (fun e => (HR3.out.1 b e.symm).2 rfl)) (HG4.out.block rr HLT.out.2 (fun e => (HR3.out.1 rr e.symm).1 rfl)))
        go_roundg g
        case measure => omega
        case rel => exact ⟨xs ++ [⟨vp, vn, vs, vv⟩], A ++ B, by simp at hg ⊢; omega, ⟨HPN.out⟩, HO4, HRG4, HB4⟩
end Go.Proofs.YtphddbijdfmpjaaDoor.Q
namespace Go.Proofs.YtphddbijdfmpjaaDoor.Wr
end Go.Proofs.YtphddbijdfmpjaaDoor.Wr
namespace Go.Proofs.YtphddbijdfmpjaaDoor.Wr
open Go.RowKit Go.MapRaw Go.Proofs.YtphddbijdfmpjaaDoorW.PrintWords Go.Proofs.YtphddbijdfmpjaaDoorW.PrintLast Go.Proofs.YtphddbijdfmpjaaDoor.Q Go.Proofs.YtphddbijdfmpjaaDoor.Pl
set_option linter.unusedVariables false
set_option linter.unusedSimpArgs false
theorem cnt_put (q : ByteArray) (k : Key) (v : Bnd) : ∀ M : Tab, cnt q (putA k v M) = cnt q M + (if (getA k M).isSome = true then 0 else if k.1 = q then 1 else 0)
  | [] => by simp [putA, cnt, getA]
  | p :: r => by
    have ih := cnt_put q k v r
    unfold putA getA
    by_cases e : p.1 = k
    · rw [if_pos e, if_pos e]
      simp only [cnt, Option.isSome_some, if_true, e]
      omega
    · rw [if_neg e, if_neg e]
      simp only [cnt, ih]
      omega
theorem len_put (k : Key) (v : Bnd) : ∀ M : Tab, (putA k v M).length = M.length + (if (getA k M).isSome = true then 0 else 1)
  | [] => by simp [putA, getA]
  | p :: r => by
    have ih := len_put k v r
    unfold putA getA
    by_cases e : p.1 = k
    · rw [if_pos e, if_pos e]; simp
    · rw [if_neg e, if_neg e, List.length_cons, ih, List.length_cons]; omega
theorem cnt_del (q : ByteArray) (k : Key) : ∀ M : Tab, (getA k M).isSome = true → cnt q (delA k M) + (if k.1 = q then 1 else 0) = cnt q M
  | [], h => by simp [getA] at h
  | p :: r, h => by
    unfold delA
    by_cases e : p.1 = k
    · rw [if_pos e]
      simp only [cnt, e]
      omega
    · rw [if_neg e]
      have : getA k (p :: r) = getA k r := by rw [getA, if_neg e]
      rw [this] at h
      have ih := cnt_del q k r h
      simp only [cnt]
      omega
theorem len_del (k : Key) : ∀ M : Tab, (getA k M).isSome = true → (delA k M).length + 1 = M.length
  | [], h => by simp [getA] at h
  | p :: r, h => by
    unfold delA
    by_cases e : p.1 = k
    · rw [if_pos e]; rfl
    · rw [if_neg e]
      have : getA k (p :: r) = getA k r := by rw [getA, if_neg e]
      rw [this] at h
      have ih := len_del k r h
      simp only [List.length_cons]
      omega
theorem cnt_leave (q p : ByteArray) : ∀ M : Tab, cnt q (leaveM p M) = if q = p then 0 else cnt q M
  | [] => by simp [leaveM, cnt]
  | x :: r => by
    have ih := cnt_leave q p r
    unfold leaveM at ih ⊢
    rw [List.filter_cons]
    by_cases e : x.1.1 = p
    · rw [if_neg (by simp [e]), ih]
      by_cases h : q = p
      · rw [if_pos h, if_pos h]
      · rw [if_neg h, if_neg h]
        simp only [cnt]
        rw [if_neg (fun e2 => h (e2.symm.trans e))]
        omega
    · rw [if_pos (by simp [e])]
      simp only [cnt, ih]
      by_cases h : q = p
      · rw [if_pos h, if_pos h, if_neg (fun e2 => e (e2.trans h))]
      · rw [if_neg h, if_neg h]
theorem len_leave (p : ByteArray) : ∀ M : Tab, (leaveM p M).length + cnt p M = M.length
  | [] => by simp [leaveM, cnt]
  | x :: r => by
    have ih := len_leave p r
    unfold leaveM at ih ⊢
    rw [List.filter_cons]
    by_cases e : x.1.1 = p
    · rw [if_neg (by simp [e])]
      simp only [cnt, List.length_cons, if_pos e]
      omega
    · rw [if_pos (by simp [e])]
      simp only [cnt, List.length_cons, if_neg e]
      omega
structure TabIs (M : Tab) (has : Key → Prop) (n : ByteArray → Nat) (len : Nat) : Prop where
  nodup : (M.map (fun x => x.1)).Nodup
  keys : ∀ k, (getA k M).isSome = true ↔ has k
  count : ∀ q, cnt q M = n q
  size : M.length = len
theorem TabIs.nil : TabIs [] (fun _ => False) (fun _ => 0) 0 := ⟨by simp, fun k => by simp [getA], fun q => rfl, rfl⟩
theorem TabIs.same {M : Tab} {has has2 : Key → Prop} {n n2 : ByteArray → Nat} {l l2 : Nat} (h : TabIs M has n l) (h1 : ∀ k, has k ↔ has2 k) (h2 : ∀ q, n q = n2 q) (h3 : l = l2) : TabIs M has2 n2 l2 :=
  ⟨h.nodup, fun k => (h.keys k).trans (h1 k), fun q => (h.count q).trans (h2 q), h.size.trans h3⟩
theorem TabIs.lay {M : Tab} {has : Key → Prop} {n : ByteArray → Nat} {l : Nat} (h : TabIs M has n l) (b : Bnd) (hf : formedB b = true) (hn : ¬ has (b.path, b.name)) (hc : n b.path < 16) :
    setE M b = 0 ∧ TabIs (setM M b) (fun k => k = (b.path, b.name) ∨ has k) (fun q => n q + (if b.path = q then 1 else 0)) (l + 1) := by
  have hk : ¬ (getA (b.path, b.name) M).isSome = true := fun e => hn ((h.keys _).1 e)
  have he : setE M b = 0 := by
    unfold setE
    rw [if_pos hf, if_neg (fun e => by have := h.count b.path; omega)]
  refine ⟨he, ?_, fun k => ?_, fun q => ?_, ?_⟩
  · exact setM_nodup b h.nodup
  · unfold setM
    rw [if_pos he, get_put]
    by_cases e : k = (b.path, b.name)
    · rw [if_pos e]; simp [e]
    · rw [if_neg e, h.keys]; simp [e]
  · unfold setM
    rw [if_pos he, cnt_put, if_neg hk, h.count]
  · unfold setM
    rw [if_pos he, len_put, if_neg hk, h.size]
theorem TabIs.swap {M : Tab} {has : Key → Prop} {n : ByteArray → Nat} {l : Nat} (h : TabIs M has n l) (b : Bnd) (hf : formedB b = true) (hn : has (b.path, b.name)) : setE M b = 0 ∧ TabIs (setM M b) has n l := by
  have hk : (getA (b.path, b.name) M).isSome = true := (h.keys _).2 hn
  have he : setE M b = 0 := by
    unfold setE
    rw [if_pos hf, if_neg (fun e => by have h1 := e.1; rw [Option.isNone_iff_eq_none] at h1; rw [h1] at hk; cases hk)]
  refine ⟨he, setM_nodup b h.nodup, fun k => ?_, fun q => ?_, ?_⟩
  · unfold setM
    rw [if_pos he, get_put]
    by_cases e : k = (b.path, b.name)
    · rw [if_pos e]; simp [e, hn]
    · rw [if_neg e, h.keys]
  · unfold setM
    rw [if_pos he, cnt_put, if_pos hk, h.count]; rfl
  · unfold setM
    rw [if_pos he, len_put, if_pos hk, h.size]; rfl
theorem TabIs.full {M : Tab} {has : Key → Prop} {n : ByteArray → Nat} {l : Nat} (h : TabIs M has n l) (b : Bnd) (hf : formedB b = true) (hn : ¬ has (b.path, b.name)) (hc : n b.path = 16) : setE M b = 194 ∧ setM M b = M := by
  have hk : getA (b.path, b.name) M = none := by
    cases e : getA (b.path, b.name) M with
    | none => rfl
    | some x => exact absurd ((h.keys _).1 (by rw [e]; rfl)) hn
  have he : setE M b = 194 := by
    unfold setE
    rw [if_pos hf, if_pos ⟨by rw [hk]; rfl, by have := h.count b.path; omega⟩]
  exact ⟨he, by unfold setM; rw [he, if_neg (by decide)]⟩
theorem TabIs.drop {M : Tab} {has : Key → Prop} {n : ByteArray → Nat} {l : Nat} (h : TabIs M has n l) (p nm : ByteArray) (hp : pathS p = 0) (hn : has (p, nm)) :
    dropE M p nm = 0 ∧ TabIs (dropM M p nm) (fun k => k ≠ (p, nm) ∧ has k) (fun q => n q - (if p = q then 1 else 0)) (l - 1) := by
  have hk : (getA (p, nm) M).isSome = true := (h.keys _).2 hn
  have he : dropE M p nm = 0 := by unfold dropE; rw [if_pos hp, if_pos hk]
  refine ⟨he, ?_, fun k => ?_, fun q => ?_, ?_⟩
  · unfold dropM; rw [if_pos he]; exact nodup_del _ M h.nodup
  · unfold dropM
    rw [if_pos he, get_del _ _ _ h.nodup]
    by_cases e : k = (p, nm)
    · rw [if_pos e]; simp [e]
    · rw [if_neg e, h.keys]; simp [e]
  · unfold dropM
    rw [if_pos he]
    have := cnt_del q (p, nm) M hk
    have h2 := h.count q
    simp only at this
    omega
  · unfold dropM
    rw [if_pos he]
    have := len_del (p, nm) M hk
    have h2 := h.size
    omega
theorem TabIs.missing {M : Tab} {has : Key → Prop} {n : ByteArray → Nat} {l : Nat} (h : TabIs M has n l) (p nm : ByteArray) (hp : pathS p = 0) (hn : ¬ has (p, nm)) : dropE M p nm = 191 ∧ dropM M p nm = M := by
  have hk : ¬ (getA (p, nm) M).isSome = true := fun e => hn ((h.keys _).1 e)
  have he : dropE M p nm = 191 := by unfold dropE; rw [if_pos hp, if_neg hk]
  exact ⟨he, by unfold dropM; rw [he, if_neg (by decide)]⟩
theorem getA_mem {k : Key} : ∀ {M : Tab}, (getA k M).isSome = true ↔ k ∈ M.map (fun x => x.1)
  | [] => by simp [getA]
  | p :: r => by
    unfold getA
    by_cases e : p.1 = k
    · rw [if_pos e]; simp [e]
    · rw [if_neg e, getA_mem, List.map_cons, List.mem_cons]
      exact ⟨.inr, fun h => h.elim (fun h => absurd h.symm e) id⟩
theorem TabIs.leave {M : Tab} {has : Key → Prop} {n : ByteArray → Nat} {l : Nat} (h : TabIs M has n l) (p : ByteArray) : TabIs (leaveM p M) (fun k => k.1 ≠ p ∧ has k) (fun q => if q = p then 0 else n q) (l - n p) := by
  refine ⟨?_, fun k => ?_, fun q => ?_, ?_⟩
  · exact ((List.filter_sublist (l := M)).map _).nodup h.nodup
  · rw [getA_mem, ← h.keys, getA_mem]
    simp only [List.mem_map, leaveM, List.mem_filter, decide_eq_true_eq]
    constructor
    · rintro ⟨x, ⟨h1, h2⟩, rfl⟩; exact ⟨h2, x, h1, rfl⟩
    · rintro ⟨h2, x, h1, rfl⟩; exact ⟨x, ⟨h1, h2⟩, rfl⟩
  · rw [cnt_leave, h.count]
  · have := len_leave p M
    have h1 := h.count p
    have h2 := h.size
    omega
def nm (i : Nat) : ByteArray := (⟨#[110]⟩ : ByteArray) ++ strOfNums [97 + (i : Int)]
theorem nm_name : ∀ i : Fin 16, nameB (nm i.val) = true := by decide +kernel
theorem nm_inj : ∀ i j : Fin 16, nm i.val = nm j.val → i = j := by decide +kernel
theorem nm_x : ∀ i : Fin 16, nm i.val ≠ ⟨#[120]⟩ ∧ nm i.val ≠ ⟨#[121]⟩ := by decide +kernel
theorem s_name : nameB ⟨#[115]⟩ = true ∧ nameB ⟨#[122]⟩ = true ∧ nameB ⟨#[120]⟩ = true ∧ nameB ⟨#[121]⟩ = true ∧ nameB ⟨#[97]⟩ = true := by decide +kernel
theorem qr_path : pathS ⟨#[47, 113]⟩ = 0 ∧ pathS ⟨#[47, 114]⟩ = 0 := by decide +kernel
theorem formed_of {p n s : ByteArray} {v : Int} (hp : pathS p = 0) (hn : nameB n = true) (hs : nameB s = true) (h0 : 0 ≤ v) (h3 : v ≤ 3) : formedB ⟨p, n, s, v⟩ = true := by
  unfold formedB
  simp [hp, hn, hs, h0, h3]
end Go.Proofs.YtphddbijdfmpjaaDoor.Wr
namespace Go.Proofs.YtphddbijdfmpjaaDoor.Q
open Go.RowKit Go.MapRaw Go.Proofs.YtphddbijdfmpjaaDoorW.PrintWords Go.Proofs.YtphddbijdfmpjaaDoorW.PrintLast Go.Proofs.YtphddbijdfmpjaaDoor.Wr
open Go.ChangeMaps (setBlock)
set_option linter.unusedVariables false
set_option linter.unusedSimpArgs false
theorem and15_ (n : Int) : bits .and .i64 n 15 = n % 16 := by
  have h127 : (BitVec.ofInt 64 15).toNat = 2 ^ 4 - 1 := by decide
  have key : (BitVec.ofInt 64 n &&& BitVec.ofInt 64 15).toNat = (n % ((2 ^ 64 : Nat) : Int)).toNat % 2 ^ 4 := by
    rw [BitVec.toNat_and, BitVec.toNat_ofInt, h127, Nat.and_two_pow_sub_one_eq_mod]
  show IntKind.i64.wrap ((BitVec.ofInt 64 n &&& BitVec.ofInt 64 15).toNat : Nat) = n % 16
  rw [key, IntKind.wrap_i64]
  omega
theorem and3_ (n : Int) : bits .and .i64 n 3 = n % 4 := by
  have h127 : (BitVec.ofInt 64 3).toNat = 2 ^ 2 - 1 := by decide
  have key : (BitVec.ofInt 64 n &&& BitVec.ofInt 64 3).toNat = (n % ((2 ^ 64 : Nat) : Int)).toNat % 2 ^ 2 := by
    rw [BitVec.toNat_and, BitVec.toNat_ofInt, h127, Nat.and_two_pow_sub_one_eq_mod]
  show IntKind.i64.wrap ((BitVec.ofInt 64 n &&& BitVec.ofInt 64 3).toNat : Nat) = n % 4
  rw [key, IntKind.wrap_i64]
  omega
theorem one_reads (w : World) (x : Int) : Kd.C (Kd.int .u8) (w.alloc (.cells #[.int .u8 x] 5)) (some ⟨w.heap.size, 0, none⟩) 1 [x] := by
  refine ⟨rfl, by decide, fun _ => ⟨_, rfl, fun j p hj => ?_⟩⟩
  cases j with
  | succ j => simp at hj
  | zero =>
    obtain rfl : x = p := by simpa using hj
    refine ⟨[.int .u8 x], rfl, rfl, fun i u hu => ?_⟩
    cases i with
    | succ i => simp at hu
    | zero =>
      obtain rfl : Value.int .u8 x = u := by simpa using hu
      exact (blk_cell (blk_new w (.cells #[.int .u8 x] 5)) 0).trans rfl
theorem name_conv (w : World) (x : Int) : (convert 47 9 (.slice (some ⟨w.heap.size, 0, none⟩) 1 1)).run Tryd.prog (w.alloc (.cells #[.int .u8 x] 5)) = .ok (.string (strOfNums [x])) (w.alloc (.cells #[.int .u8 x] 5)) :=
  Kd.C_string Tryd.underlying47 Tryd.underlying5 Tryd.underlying9 (one_reads w x)
section
variable {w w' : World} {t b : Nat} {M M2 : Tab}
theorem set_step {bd : Bnd} {res : Int} (hG : Glob w) (hT : TB w' t b M) (hB : Below w.heap.size w w') (hb : w.heap.size ≤ b) (hM : M.length ≤ 1000000) (he : setE M bd = res) (hm : setM M bd = M2) :
    Calls Tryd.prog 20 #[.pointer (some ⟨t, 0, none⟩), .agg #[.string bd.path, .string bd.name, .string bd.subject, .int .i64 bd.verb]] w' fun e w2 => e = .returned (.int .i64 res) ∧ TB w2 t b M2 ∧ Below w.heap.size w w2 := by
  refine (set_ok w' t b M bd hT (hG.below hB) hM).mono ?_
  rintro e w2 ⟨rfl, h1, h2⟩
  exact ⟨by rw [he], by rw [← hm]; exact h1, hB.trans (h2.belowB hb hB.size)⟩
theorem drop_step {p n : ByteArray} {res : Int} (hG : Glob w) (hT : TB w' t b M) (hB : Below w.heap.size w w') (hb : w.heap.size ≤ b) (he : dropE M p n = res) (hm : dropM M p n = M2) :
    Calls Tryd.prog 21 #[.pointer (some ⟨t, 0, none⟩), .string p, .string n] w' fun e w2 => e = .returned (.int .i64 res) ∧ TB w2 t b M2 ∧ Below w.heap.size w w2 := by
  refine (drop_ok w' t b M p n hT (hG.below hB)).mono ?_
  rintro e w2 ⟨rfl, h1, h2⟩
  exact ⟨by rw [he], by rw [← hm]; exact h1, hB.trans (h2.belowB hb hB.size)⟩
theorem leave_step {p : ByteArray} {n : Nat} (hG : Glob w) (hT : TB w' t b M) (hB : Below w.heap.size w w') (hb : w.heap.size ≤ b) (hM : M.length ≤ 1000000) (he : cnt p M = n) (hm : leaveM p M = M2) :
    Calls Tryd.prog 22 #[.pointer (some ⟨t, 0, none⟩), .string p] w' fun e w2 => e = .returned (.int .i64 (n : Int)) ∧ TB w2 t b M2 ∧ Below w.heap.size w w2 := by
  refine (leave_ok w' t b M p hT hM).mono ?_
  rintro e w2 ⟨rfl, h1, h2⟩
  exact ⟨by rw [he], by rw [← hm]; exact h1, hB.trans (h2.belowB hb hB.size)⟩
theorem list_step {n : Nat} (hG : Glob w) (hT : TB w' t b M) (hB : Below w.heap.size w w') (hM : M.length ≤ 1000000) (he : M.length = n) :
    Calls Tryd.prog 17 #[.pointer (some ⟨t, 0, none⟩)] w' fun e w2 => ∃ A c, e = .returned (.slice A n c) ∧ TB w2 t b M ∧ Below w.heap.size w w2 := by
  refine (list_ok w' t b M hT (hG.below hB) hM).mono ?_
  rintro e w2 ⟨v, L, rfl, hP, _, hR, h2⟩
  obtain ⟨A, c, rfl⟩ := Kd.R_slice hR
  have hl : L.length = n := by rw [hP.length_eq, List.length_map, he]
  exact ⟨A, c, by rw [hl], hT.below h2, hB.trans (below_lower h2 hB.size)⟩
end
attribute [local go_sem] and15_ and3_
set_option maxRecDepth 100000 in
set_option maxHeartbeats 16000000 in
theorem bursarlaw21_AccessHoldsSixteen.calls (k : Nat) (p : ByteArray) (gone : Int) (r : Bool) (w : World) (hp : r = true) (hG : Glob w) :
    Calls Tryd.prog 5 #[.string p, .int .i64 gone] w fun e w' => e = .returned (.bool r) ∧ Below w.heap.size w w' := by
  have hu27 := Tryd.underlying27
  have LV := Lib.hid (lives_ok w hG)
  have HGG := Lib.hid hG
  have PK := Lib.hid (path_ok p)
  clear hG
  go_enter Tryd.func5, Tryd.ntmps5
  go_upto_region 4 with (go_at_call 10; refine LV.out.mono ?_; rintro e w1 ⟨t, b, rfl, hT, ht, hb, hb1⟩; have S0 := Aside0.mk (And.intro hT hb1); have HTB := Lib.hid (And.intro ht hb); clear hT ht hb hb1)
  clear LV
  rcases line_cases p with ⟨hp0, _⟩ | ⟨hp0, _⟩
  rotate_left
  · have hf : setE [] ⟨p, ⟨#[97]⟩, ⟨#[115]⟩, 0⟩ = 130 := by unfold setE; rw [if_neg (by unfold formedB; rw [hp0]; simp)]
    have C0 := Lib.hid (fun w' hT hB => set_step (w := w) (w' := w') (t := t) (b := b) (M := []) (bd := ⟨p, ⟨#[97]⟩, ⟨#[115]⟩, 0⟩) (M2 := _) HGG.out hT hB HTB.out.2 (by simp) hf rfl)
    rw [hp0] at PK
    clear hf hp0
    go_wp2_with (first
      | (go_at_call 19; refine (PK.out _ (HGG.out.below S0.out.2)).mono ?_; rintro e w2 ⟨rfl, hb⟩; have S1 := Aside0.mk (And.intro (S0.out.1.below hb) (S0.out.2.trans (below_lower hb S0.out.2.size))); clear hb S0)
      | (go_at_call 20; (with_reducible refine (C0.out _ S1.out.1 S1.out.2).mono ?_); rintro e wx ⟨rfl, hT, hB⟩; have S2 := Aside0.mk (And.intro hT hB); clear hT hB S1))
    go_ret
    exact ⟨by rw [hp] <;> rfl, S2.out.2⟩
  rw [hp0] at PK
  obtain ⟨g, hg, hgm⟩ : ∃ g : Nat, g < 16 ∧ gone % 16 = (g : Int) := ⟨(gone % 16).toNat, by omega, by omega⟩
  have HG16 := Lib.hid hg
  clear hg
  have HP0 := Lib.hid hp0
  go_upto_region 8 with (go_at_call 19; refine (PK.out _ (HGG.out.below S0.out.2)).mono ?_; rintro e w2 ⟨rfl, hb⟩; have S1 := Aside0.mk (And.intro (S0.out.1.below hb) (S0.out.2.trans (below_lower hb S0.out.2.size))); clear hb S0)
  go_loopg [6] 16 (fun g_ v6 wr => ∃ (i : Nat) (M : Tab), v6 = .int .i64 (i : Int) ∧ Aside0 (i + g_ = 16) ∧ Aside0 (TabIs M (fun k => ∃ j, j < i ∧ k = (p, nm j)) (fun q => if p = q then i else 0) i) ∧ Aside0 (TB wr t b M ∧ Below w.heap.size w wr))
  case atStart => exact ⟨0, [], rfl, ⟨rfl⟩, ⟨TabIs.nil.same (fun k => by simp) (fun q => by simp) rfl⟩, S1⟩
  case round =>
    clear S1
    obtain ⟨i, M, rfl, HI, HTI, SA⟩ := hrel
    by_cases hi : i < 16
    · have q1 : decide ((i : Int) < 16) = true := decide_eq_true (by omega)
      have q1n : decide (i < 16) = true := decide_eq_true hi
      obtain ⟨g0, rfl⟩ : ∃ g0, gk = g0 + 1 := ⟨gk - 1, by have := HI.out; omega⟩
      have F0 := formed_of hp0 (nm_name ⟨i, hi⟩) s_name.1 (v := (i : Int) % 4) (by omega) (by omega)
      have L0 := HTI.out.lay ⟨p, nm i, ⟨#[115]⟩, (i : Int) % 4⟩ F0 (by
        rintro ⟨j, hj, h⟩
        have := nm_inj ⟨i, hi⟩ ⟨j, by omega⟩ (congrArg Prod.snd h)
        have : i = j := congrArg Fin.val this
        omega) (by simp; omega)
      have LT := Lib.hid L0.2
      have C0 := Lib.hid (fun w' hT hB => set_step (w := w) (w' := w') (t := t) (b := b) (M := M) (bd := ⟨p, nm i, ⟨#[115]⟩, (i : Int) % 4⟩) (M2 := _) HGG.out hT hB HTB.out.2 (by rw [HTI.out.size]; omega) L0.1 rfl)
      have hcv := name_conv wr (97 + (i : Int))
      have hw8 : IntKind.u8.wrap (97 + (i : Int)) = 97 + (i : Int) := by rw [IntKind.wrap_u8]; omega
      have hnm : ((⟨#[110]⟩ : ByteArray) ++ strOfNums [97 + (i : Int)]) = nm i := rfl
      have ha3 := and3_ (i : Int)
      have S2 := Aside0.mk (And.intro (SA.out.1.below ((Below.refl wr.heap.size wr).alloc (Nat.le_refl _) (.cells #[.int .u8 (97 + (i : Int))] 5))) (SA.out.2.alloc SA.out.2.size (.cells #[.int .u8 (97 + (i : Int))] 5)))
      have HI16 := Lib.hid hi
      clear L0 F0
      go_wp2_with (go_at_call 20; (with_reducible refine (C0.out _ S2.out.1 S2.out.2).mono ?_); rintro e wx ⟨rfl, hT, hB⟩; have S3 := Aside0.mk (And.intro hT hB); clear hT hB S2)
      go_roundg g0
      case measure => omega
      case rel => exact ⟨i + 1, _, congrArg (Value.int .i64) (by have := HI16.out; first | omega | (rw [w64 i (by omega)])), ⟨by have := HI.out; omega⟩, ⟨LT.out.same (fun k => ⟨fun h => h.elim (fun e => ⟨i, by omega, e⟩) (fun ⟨j, hj, e⟩ => ⟨j, by omega, e⟩), fun ⟨j, hj, e⟩ => if h : j = i then .inl (by rw [e, h]) else .inr ⟨j, by omega, e⟩⟩) (fun q => by by_cases h : p = q <;> simp [h]) rfl⟩, S3⟩
    · have q1 : decide ((i : Int) < 16) = false := decide_eq_false (by omega)
      have q1n : decide (i < 16) = false := decide_eq_false hi
      obtain rfl : i = 16 := by have := HI.out; omega
      clear hi
      have TA_ := Lib.hid HTI.out
      clear HTI
      have FX := formed_of hp0 s_name.2.2.1 s_name.1 (v := 0) (by decide) (by decide)
      have FZ := formed_of hp0 (nm_name ⟨g, HG16.out⟩) s_name.2.1 (v := 0) (by decide) (by decide)
      have X0 := TA_.out.full ⟨p, ⟨#[120]⟩, ⟨#[115]⟩, 0⟩ FX (by rintro ⟨j, hj, h⟩; exact (nm_x ⟨j, hj⟩).1 (congrArg Prod.snd h).symm) (by simp)
      have D1 := Lib.hid (fun w' hT hB => set_step (w := w) (w' := w') (t := t) (b := b) (M := M) (bd := ⟨p, ⟨#[120]⟩, ⟨#[115]⟩, 0⟩) (M2 := M) HGG.out hT hB HTB.out.2 (by rw [TA_.out.size]; omega) X0.1 X0.2)
      have Z0 := TA_.out.swap ⟨p, nm g, ⟨#[122]⟩, 0⟩ FZ ⟨g, HG16.out, rfl⟩
      obtain ⟨Mb, hMb⟩ : ∃ Mb, Mb = setM M ⟨p, nm g, ⟨#[122]⟩, 0⟩ := ⟨_, rfl⟩
      rw [← hMb] at Z0
      have TB_ := Lib.hid Z0.2
      have D2 := Lib.hid (fun w' hT hB => set_step (w := w) (w' := w') (t := t) (b := b) (M := M) (bd := ⟨p, nm g, ⟨#[122]⟩, 0⟩) (M2 := Mb) HGG.out hT hB HTB.out.2 (by rw [TA_.out.size]; omega) Z0.1 hMb.symm)
      have D3 := Lib.hid (fun w' hT hB => list_step (w := w) (w' := w') (t := t) (b := b) (M := Mb) (n := 16) HGG.out hT hB (by rw [TB_.out.size]; omega) TB_.out.size)
      clear X0 Z0 hMb FX FZ
      have hcv := name_conv wr (97 + (g : Int))
      have hw8 : IntKind.u8.wrap (97 + (g : Int)) = 97 + (g : Int) := by have := HG16.out; rw [IntKind.wrap_u8]; omega
      have hnm : ((⟨#[110]⟩ : ByteArray) ++ strOfNums [97 + (g : Int)]) = nm g := rfl
      have hg16 := HG16.out
      have SB := Aside0.mk (And.intro (SA.out.1.below ((Below.refl wr.heap.size wr).alloc (Nat.le_refl _) (.cells #[.int .u8 (97 + (g : Int))] 5))) (SA.out.2.alloc SA.out.2.size (.cells #[.int .u8 (97 + (g : Int))] 5)))
      go_upto_region 13 with fail
      clear SA
      generalize wr.alloc _ = wr at SB ⊢
      clear hcv hw8 hnm hg16
      go_upto_region 16 with (first | (go_at_call 20; (with_reducible refine (D1.out _ SB.out.1 SB.out.2).mono ?_); rintro e wx ⟨rfl, hT, hB⟩; have SB1 := Aside0.mk (And.intro hT hB); clear hT hB SB) | (go_at_call 20; (with_reducible refine (D2.out _ SB1.out.1 SB1.out.2).mono ?_); rintro e wx ⟨rfl, hT, hB⟩; have SB2 := Aside0.mk (And.intro hT hB); clear hT hB SB1) | (go_at_call 17; (with_reducible refine (D3.out _ SB2.out.1 SB2.out.2).mono ?_); rintro e wx ⟨A_, c_, rfl, hT, hB⟩; have SC := Aside0.mk (And.intro hT hB); clear hT hB SB2))
      by_cases hpq : p = ⟨#[47, 113]⟩
      · have e1 : (p.toList == ([47, 113] : List UInt8)) = true := by rw [hpq, ByteArray.toList_eq]; rfl
        obtain ⟨q, hq⟩ : ∃ q : ByteArray, q = ⟨#[47, 114]⟩ := ⟨_, rfl⟩
        have hq0 : pathS q = 0 := by rw [hq]; exact qr_path.2
        have hnq : q ≠ p := by rw [hq, hpq]; decide
        clear hpq
        go_upto_region 18 with fail
        rw [← hq]
        clear hq
        have NQ := Lib.hid hnq
        have FX := formed_of hp0 s_name.2.2.1 s_name.1 (v := 0) (by decide) (by decide)
        have FY := formed_of hp0 s_name.2.2.2.1 s_name.1 (v := 0) (by decide) (by decide)
        have FO := formed_of hq0 s_name.2.2.1 s_name.1 (v := 0) (by decide) (by decide)
        have TC0 := TB_.out.lay ⟨q, ⟨#[120]⟩, ⟨#[115]⟩, 0⟩ FO (by rintro ⟨j, _, h⟩; exact hnq (congrArg Prod.fst h)) (by simp [Ne.symm hnq])
        obtain ⟨Mc, hMc⟩ : ∃ Mc, Mc = setM Mb ⟨q, ⟨#[120]⟩, ⟨#[115]⟩, 0⟩ := ⟨_, rfl⟩
        rw [← hMc] at TC0
        have TC_ := Lib.hid TC0.2
        have C1 := Lib.hid (fun w' hT hB => set_step (w := w) (w' := w') (t := t) (b := b) (M := Mb) (bd := ⟨q, ⟨#[120]⟩, ⟨#[115]⟩, 0⟩) (M2 := Mc) HGG.out hT hB HTB.out.2 (by rw [TB_.out.size]; omega) TC0.1 hMc.symm)
        clear hMc TC0
        have TD0 := TC_.out.drop p (nm g) hp0 (.inr ⟨g, HG16.out, rfl⟩)
        obtain ⟨Md, hMd⟩ : ∃ Md, Md = dropM Mc p (nm g) := ⟨_, rfl⟩
        rw [← hMd] at TD0
        have TD_ := Lib.hid TD0.2
        have C2 := Lib.hid (fun w' hT hB => drop_step (w := w) (w' := w') (t := t) (b := b) (M := Mc) (M2 := Md) (p := p) (n := nm g) HGG.out hT hB HTB.out.2 TD0.1 hMd.symm)
        have TM0 := TD_.out.missing p (nm g) hp0 (fun h => h.1 rfl)
        have C3 := Lib.hid (fun w' hT hB => drop_step (w := w) (w' := w') (t := t) (b := b) (M := Md) (M2 := Md) (p := p) (n := nm g) HGG.out hT hB HTB.out.2 TM0.1 TM0.2)
        clear hMd TD0 TM0
        have TE0 := TD_.out.lay ⟨p, ⟨#[120]⟩, ⟨#[115]⟩, 0⟩ FX (by
          rintro ⟨_, h | ⟨j, hj, h⟩⟩
          · exact hnq (congrArg Prod.fst h).symm
          · exact (nm_x ⟨j, hj⟩).1 (congrArg Prod.snd h).symm) (by simp [hnq])
        obtain ⟨Me, hMe⟩ : ∃ Me, Me = setM Md ⟨p, ⟨#[120]⟩, ⟨#[115]⟩, 0⟩ := ⟨_, rfl⟩
        rw [← hMe] at TE0
        have TE_ := Lib.hid TE0.2
        have C4 := Lib.hid (fun w' hT hB => set_step (w := w) (w' := w') (t := t) (b := b) (M := Md) (bd := ⟨p, ⟨#[120]⟩, ⟨#[115]⟩, 0⟩) (M2 := Me) HGG.out hT hB HTB.out.2 (by rw [TD_.out.size]; omega) TE0.1 hMe.symm)
        have TF0 := TE_.out.full ⟨p, ⟨#[121]⟩, ⟨#[115]⟩, 0⟩ FY (by
          rintro (h | ⟨_, h | ⟨j, hj, h⟩⟩)
          · have h5 : (⟨#[121]⟩ : ByteArray) = ⟨#[120]⟩ := congrArg Prod.snd h; exact absurd h5 (by decide)
          · exact hnq (congrArg Prod.fst h).symm
          · exact (nm_x ⟨j, hj⟩).2 (congrArg Prod.snd h).symm) (by simp [hnq])
        have C5 := Lib.hid (fun w' hT hB => set_step (w := w) (w' := w') (t := t) (b := b) (M := Me) (bd := ⟨p, ⟨#[121]⟩, ⟨#[115]⟩, 0⟩) (M2 := Me) HGG.out hT hB HTB.out.2 (by rw [TE_.out.size]; omega) TF0.1 TF0.2)
        clear hMe TE0 TF0
        have c16 : cnt p Me = 16 := by rw [TE_.out.count]; simp [hnq]
        have TG_ := Lib.hid (TE_.out.leave p)
        obtain ⟨Mf, hMf⟩ : ∃ Mf, Mf = leaveM p Me := ⟨_, rfl⟩
        rw [← hMf] at TG_
        have C6 := Lib.hid (fun w' hT hB => leave_step (w := w) (w' := w') (t := t) (b := b) (M := Me) (M2 := Mf) (p := p) (n := 16) HGG.out hT hB HTB.out.2 (by rw [TE_.out.size]; omega) c16 hMf.symm)
        clear c16 hMf
        have c0 : cnt p Mf = 0 := by rw [TG_.out.count]; simp
        have TH_ := Lib.hid (TG_.out.leave p)
        obtain ⟨Mg, hMg⟩ : ∃ Mg, Mg = leaveM p Mf := ⟨_, rfl⟩
        rw [← hMg] at TH_
        have C7 := Lib.hid (fun w' hT hB => leave_step (w := w) (w' := w') (t := t) (b := b) (M := Mf) (M2 := Mg) (p := p) (n := 0) HGG.out hT hB HTB.out.2 (by rw [TG_.out.size]; omega) c0 hMg.symm)
        clear c0 hMg
        have l1 : Mg.length = 1 := by rw [TH_.out.size]; simp [hnq]
        have C8 := Lib.hid (fun w' hT hB => list_step (w := w) (w' := w') (t := t) (b := b) (M := Mg) (n := 1) HGG.out hT hB (by omega) l1)
        have c1 : cnt q Mg = 1 := by rw [TH_.out.count]; simp [hnq, Ne.symm hnq]
        have TI_ := Lib.hid (TH_.out.leave q)
        obtain ⟨Mh, hMh⟩ : ∃ Mh, Mh = leaveM q Mg := ⟨_, rfl⟩
        rw [← hMh] at TI_
        have C9 := Lib.hid (fun w' hT hB => leave_step (w := w) (w' := w') (t := t) (b := b) (M := Mg) (M2 := Mh) (p := q) (n := 1) HGG.out hT hB HTB.out.2 (by omega) c1 hMh.symm)
        clear c1 hMh
        have l0 : Mh.length = 0 := by rw [TI_.out.size]; simp [hnq, Ne.symm hnq]
        have C10 := Lib.hid (fun w' hT hB => list_step (w := w) (w' := w') (t := t) (b := b) (M := Mh) (n := 0) HGG.out hT hB (by omega) l0)
        clear l1 l0 hnq FX FY FO
        go_upto_region 20 with (first | (go_at_call 20; (with_reducible refine (C1.out _ SC.out.1 SC.out.2).mono ?_); rintro e wx ⟨rfl, hT, hB⟩; have SD := Aside0.mk (And.intro hT hB); clear hT hB SC) | (go_at_call 21; (with_reducible refine (C2.out _ SD.out.1 SD.out.2).mono ?_); rintro e wx ⟨rfl, hT, hB⟩; have SE := Aside0.mk (And.intro hT hB); clear hT hB SD) | (go_at_call 21; (with_reducible refine (C3.out _ SE.out.1 SE.out.2).mono ?_); rintro e wx ⟨rfl, hT, hB⟩; have SF := Aside0.mk (And.intro hT hB); clear hT hB SE))
        go_upto_region 22 with (first | (go_at_call 20; (with_reducible refine (C4.out _ SF.out.1 SF.out.2).mono ?_); rintro e wx ⟨rfl, hT, hB⟩; have SG := Aside0.mk (And.intro hT hB); clear hT hB SF) | (go_at_call 20; (with_reducible refine (C5.out _ SG.out.1 SG.out.2).mono ?_); rintro e wx ⟨rfl, hT, hB⟩; have SH := Aside0.mk (And.intro hT hB); clear hT hB SG))
        go_wp2_with (first | (go_at_call 22; (with_reducible refine (C6.out _ SH.out.1 SH.out.2).mono ?_); rintro e wx ⟨rfl, hT, hB⟩; have SI := Aside0.mk (And.intro hT hB); clear hT hB SH) | (go_at_call 22; (with_reducible refine (C7.out _ SI.out.1 SI.out.2).mono ?_); rintro e wx ⟨rfl, hT, hB⟩; have SJ := Aside0.mk (And.intro hT hB); clear hT hB SI) | (go_at_call 17; (with_reducible refine (C8.out _ SJ.out.1 SJ.out.2).mono ?_); rintro e wx ⟨A_, c_, rfl, hT, hB⟩; have SK := Aside0.mk (And.intro hT hB); clear hT hB SJ) | (go_at_call 22; (with_reducible refine (C9.out _ SK.out.1 SK.out.2).mono ?_); rintro e wx ⟨rfl, hT, hB⟩; have SL := Aside0.mk (And.intro hT hB); clear hT hB SK) | (go_at_call 17; (with_reducible refine (C10.out _ SL.out.1 SL.out.2).mono ?_); rintro e wx ⟨A_, c_, rfl, hT, hB⟩; have SM := Aside0.mk (And.intro hT hB); clear hT hB SL))
        go_ret
        exact ⟨by rw [hp] <;> rfl, SM.out.2⟩
      · have e1 : (p.toList == ([47, 113] : List UInt8)) = false := by
          rw [beq_eq_false_iff_ne, ByteArray.toList_eq]
          exact fun h => hpq (ba_ext h)
        obtain ⟨q, hq⟩ : ∃ q : ByteArray, q = ⟨#[47, 113]⟩ := ⟨_, rfl⟩
        have hq0 : pathS q = 0 := by rw [hq]; exact qr_path.1
        have hnq : q ≠ p := by rw [hq]; exact fun h => hpq h.symm
        clear hpq
        go_upto_region 18 with fail
        rw [← hq]
        clear hq
        have NQ := Lib.hid hnq
        have FX := formed_of hp0 s_name.2.2.1 s_name.1 (v := 0) (by decide) (by decide)
        have FY := formed_of hp0 s_name.2.2.2.1 s_name.1 (v := 0) (by decide) (by decide)
        have FO := formed_of hq0 s_name.2.2.1 s_name.1 (v := 0) (by decide) (by decide)
        have TC0 := TB_.out.lay ⟨q, ⟨#[120]⟩, ⟨#[115]⟩, 0⟩ FO (by rintro ⟨j, _, h⟩; exact hnq (congrArg Prod.fst h)) (by simp [Ne.symm hnq])
        obtain ⟨Mc, hMc⟩ : ∃ Mc, Mc = setM Mb ⟨q, ⟨#[120]⟩, ⟨#[115]⟩, 0⟩ := ⟨_, rfl⟩
        rw [← hMc] at TC0
        have TC_ := Lib.hid TC0.2
        have C1 := Lib.hid (fun w' hT hB => set_step (w := w) (w' := w') (t := t) (b := b) (M := Mb) (bd := ⟨q, ⟨#[120]⟩, ⟨#[115]⟩, 0⟩) (M2 := Mc) HGG.out hT hB HTB.out.2 (by rw [TB_.out.size]; omega) TC0.1 hMc.symm)
        clear hMc TC0
        have TD0 := TC_.out.drop p (nm g) hp0 (.inr ⟨g, HG16.out, rfl⟩)
        obtain ⟨Md, hMd⟩ : ∃ Md, Md = dropM Mc p (nm g) := ⟨_, rfl⟩
        rw [← hMd] at TD0
        have TD_ := Lib.hid TD0.2
        have C2 := Lib.hid (fun w' hT hB => drop_step (w := w) (w' := w') (t := t) (b := b) (M := Mc) (M2 := Md) (p := p) (n := nm g) HGG.out hT hB HTB.out.2 TD0.1 hMd.symm)
        have TM0 := TD_.out.missing p (nm g) hp0 (fun h => h.1 rfl)
        have C3 := Lib.hid (fun w' hT hB => drop_step (w := w) (w' := w') (t := t) (b := b) (M := Md) (M2 := Md) (p := p) (n := nm g) HGG.out hT hB HTB.out.2 TM0.1 TM0.2)
        clear hMd TD0 TM0
        have TE0 := TD_.out.lay ⟨p, ⟨#[120]⟩, ⟨#[115]⟩, 0⟩ FX (by
          rintro ⟨_, h | ⟨j, hj, h⟩⟩
          · exact hnq (congrArg Prod.fst h).symm
          · exact (nm_x ⟨j, hj⟩).1 (congrArg Prod.snd h).symm) (by simp [hnq])
        obtain ⟨Me, hMe⟩ : ∃ Me, Me = setM Md ⟨p, ⟨#[120]⟩, ⟨#[115]⟩, 0⟩ := ⟨_, rfl⟩
        rw [← hMe] at TE0
        have TE_ := Lib.hid TE0.2
        have C4 := Lib.hid (fun w' hT hB => set_step (w := w) (w' := w') (t := t) (b := b) (M := Md) (bd := ⟨p, ⟨#[120]⟩, ⟨#[115]⟩, 0⟩) (M2 := Me) HGG.out hT hB HTB.out.2 (by rw [TD_.out.size]; omega) TE0.1 hMe.symm)
        have TF0 := TE_.out.full ⟨p, ⟨#[121]⟩, ⟨#[115]⟩, 0⟩ FY (by
          rintro (h | ⟨_, h | ⟨j, hj, h⟩⟩)
          · have h5 : (⟨#[121]⟩ : ByteArray) = ⟨#[120]⟩ := congrArg Prod.snd h; exact absurd h5 (by decide)
          · exact hnq (congrArg Prod.fst h).symm
          · exact (nm_x ⟨j, hj⟩).2 (congrArg Prod.snd h).symm) (by simp [hnq])
        have C5 := Lib.hid (fun w' hT hB => set_step (w := w) (w' := w') (t := t) (b := b) (M := Me) (bd := ⟨p, ⟨#[121]⟩, ⟨#[115]⟩, 0⟩) (M2 := Me) HGG.out hT hB HTB.out.2 (by rw [TE_.out.size]; omega) TF0.1 TF0.2)
        clear hMe TE0 TF0
        have c16 : cnt p Me = 16 := by rw [TE_.out.count]; simp [hnq]
        have TG_ := Lib.hid (TE_.out.leave p)
        obtain ⟨Mf, hMf⟩ : ∃ Mf, Mf = leaveM p Me := ⟨_, rfl⟩
        rw [← hMf] at TG_
        have C6 := Lib.hid (fun w' hT hB => leave_step (w := w) (w' := w') (t := t) (b := b) (M := Me) (M2 := Mf) (p := p) (n := 16) HGG.out hT hB HTB.out.2 (by rw [TE_.out.size]; omega) c16 hMf.symm)
        clear c16 hMf
        have c0 : cnt p Mf = 0 := by rw [TG_.out.count]; simp
        have TH_ := Lib.hid (TG_.out.leave p)
        obtain ⟨Mg, hMg⟩ : ∃ Mg, Mg = leaveM p Mf := ⟨_, rfl⟩
        rw [← hMg] at TH_
        have C7 := Lib.hid (fun w' hT hB => leave_step (w := w) (w' := w') (t := t) (b := b) (M := Mf) (M2 := Mg) (p := p) (n := 0) HGG.out hT hB HTB.out.2 (by rw [TG_.out.size]; omega) c0 hMg.symm)
        clear c0 hMg
        have l1 : Mg.length = 1 := by rw [TH_.out.size]; simp [hnq]
        have C8 := Lib.hid (fun w' hT hB => list_step (w := w) (w' := w') (t := t) (b := b) (M := Mg) (n := 1) HGG.out hT hB (by omega) l1)
        have c1 : cnt q Mg = 1 := by rw [TH_.out.count]; simp [hnq, Ne.symm hnq]
        have TI_ := Lib.hid (TH_.out.leave q)
        obtain ⟨Mh, hMh⟩ : ∃ Mh, Mh = leaveM q Mg := ⟨_, rfl⟩
        rw [← hMh] at TI_
        have C9 := Lib.hid (fun w' hT hB => leave_step (w := w) (w' := w') (t := t) (b := b) (M := Mg) (M2 := Mh) (p := q) (n := 1) HGG.out hT hB HTB.out.2 (by omega) c1 hMh.symm)
        clear c1 hMh
        have l0 : Mh.length = 0 := by rw [TI_.out.size]; simp [hnq, Ne.symm hnq]
        have C10 := Lib.hid (fun w' hT hB => list_step (w := w) (w' := w') (t := t) (b := b) (M := Mh) (n := 0) HGG.out hT hB (by omega) l0)
        clear l1 l0 hnq FX FY FO
        go_upto_region 20 with (first | (go_at_call 20; (with_reducible refine (C1.out _ SC.out.1 SC.out.2).mono ?_); rintro e wx ⟨rfl, hT, hB⟩; have SD := Aside0.mk (And.intro hT hB); clear hT hB SC) | (go_at_call 21; (with_reducible refine (C2.out _ SD.out.1 SD.out.2).mono ?_); rintro e wx ⟨rfl, hT, hB⟩; have SE := Aside0.mk (And.intro hT hB); clear hT hB SD) | (go_at_call 21; (with_reducible refine (C3.out _ SE.out.1 SE.out.2).mono ?_); rintro e wx ⟨rfl, hT, hB⟩; have SF := Aside0.mk (And.intro hT hB); clear hT hB SE))
        go_upto_region 22 with (first | (go_at_call 20; (with_reducible refine (C4.out _ SF.out.1 SF.out.2).mono ?_); rintro e wx ⟨rfl, hT, hB⟩; have SG := Aside0.mk (And.intro hT hB); clear hT hB SF) | (go_at_call 20; (with_reducible refine (C5.out _ SG.out.1 SG.out.2).mono ?_); rintro e wx ⟨rfl, hT, hB⟩; have SH := Aside0.mk (And.intro hT hB); clear hT hB SG))
        go_wp2_with (first | (go_at_call 22; (with_reducible refine (C6.out _ SH.out.1 SH.out.2).mono ?_); rintro e wx ⟨rfl, hT, hB⟩; have SI := Aside0.mk (And.intro hT hB); clear hT hB SH) | (go_at_call 22; (with_reducible refine (C7.out _ SI.out.1 SI.out.2).mono ?_); rintro e wx ⟨rfl, hT, hB⟩; have SJ := Aside0.mk (And.intro hT hB); clear hT hB SI) | (go_at_call 17; (with_reducible refine (C8.out _ SJ.out.1 SJ.out.2).mono ?_); rintro e wx ⟨A_, c_, rfl, hT, hB⟩; have SK := Aside0.mk (And.intro hT hB); clear hT hB SJ) | (go_at_call 22; (with_reducible refine (C9.out _ SK.out.1 SK.out.2).mono ?_); rintro e wx ⟨rfl, hT, hB⟩; have SL := Aside0.mk (And.intro hT hB); clear hT hB SK) | (go_at_call 17; (with_reducible refine (C10.out _ SL.out.1 SL.out.2).mono ?_); rintro e wx ⟨A_, c_, rfl, hT, hB⟩; have SM := Aside0.mk (And.intro hT hB); clear hT hB SL))
        go_ret
        exact ⟨by rw [hp] <;> rfl, SM.out.2⟩
end Go.Proofs.YtphddbijdfmpjaaDoor.Q
namespace Go.Proofs.YtphddbijdfmpjaaDoor.Pure
theorem AccessHoldsSixteen (a : ByteArray) (b : Int) (h1 : a.size ≤ 140737488351232) (h2 : (Lit.int .i64 b).wf = true) : ∃ k : Nat, true = true := ⟨0, rfl⟩
end Go.Proofs.YtphddbijdfmpjaaDoor.Pure
namespace Go.Proofs.YtphddbijdfmpjaaDoor.Q
open Go.RowKit Go.Lib Go.ChangeShapes Go.Proofs.YtphddbijdfmpjaaDoorW.PrintWords Go.Proofs.YtphddbijdfmpjaaDoorW.PrintLast
set_option linter.unusedVariables false
set_option linter.unusedSimpArgs false
theorem laid_one {P : Program} {w : World} {l : List (String × DataW Unit)} {n : String} {d : DataW Unit} (h : laidMetH P l w) (hl : (l.filter fun x => x.1 == n) = [(n, d)]) (hd : d.handleName? = none) : laidMet P [(n, d)] w := by
  have h1 := h.filter (fun x => x.1 == n)
  rw [hl] at h1
  have h2 := (laidMetH_iff.1 h1).1
  have e : ([(n, d)] : List (String × DataW Unit)).filter (fun x => x.2.handleName?.isNone) = [(n, d)] := by simp [List.filter_cons, hd]
  rw [e] at h2
  exact h2
theorem letters_laid {w : World} (h : laidMet Tryd.prog [("bursar/object.letters", Rows.laid_bursar_object_letters)] w) : w.cell? ⟨0, 4, none⟩ = some (.int .u8 66) :=
  (Lib.tabIs_of_head (k := .u8) (zs := [0, 81, 76, 79, 66]) (g := 0) (t := 97) (e := 5) (n := 5) (by kernel_rfl) (by kernel_rfl) Tryd.underlying97 Tryd.underlying5 (by kernel_rfl) (by kernel_rfl) h).cell (by kernel_rfl) 4 (by decide)
theorem glob_of {W : World} (hsh : W.ShapedOpen Tryd.prog) (h : laidMetH Tryd.prog Rows.accessGoesDownRow.laid W) : Glob W :=
  ⟨Tryd.laysM146.s1_3 W hsh, letters_laid (laid_one h rfl rfl)⟩
end Go.Proofs.YtphddbijdfmpjaaDoor.Q
namespace Go.Proofs.YtphddbijdfmpjaaDoor.accessHoldsSixteen
open Go.ChangeShapes Go.WideShapes Go.ChangeAt Go.RowKit
open Go.ChangeMaps (open_string shut_string)
set_option linter.unusedVariables false
set_option linter.unusedSimpArgs false
theorem own : ownKnob Tryd.prog.godebug = none := by kernel_rfl
set_option maxRecDepth 100000 in
theorem contract (H : Type) (enc : TypeId × Value → H) (W : World) (base : Nat) (args : Array Value) (ds gs : List (DataW H)) (before : List MemPlace)
    (hval0 : ∀ (j : Nat) t v, Tryd.f5.params[j]? = some t → args[j]? = some v → Value.okWide Tryd.prog W .any base t v)
    (hW : DataW.Whole enc Tryd.prog Tryd.f5.params.toList Rows.accessHoldsSixteenSpec.vars false W args.toList ds gs before)
    (hsz0 : (DataW.weightsEach Tryd.prog (Tryd.f5.params.toList ++ (OpenSpec.ofChange Rows.accessHoldsSixteenSpec).bare.plain.varTypes Tryd.prog) (ds ++ gs)).all (· ≤ reachBytes) = true)
    (hsh : W.ShapedOpen Tryd.prog)
    (hl : laidMetH Tryd.prog Rows.accessHoldsSixteenRow.laid W)
    : Calls Tryd.prog 5 args W fun e W' => ∃ v, e = .returned v ∧ Rows.accessHoldsSixteenSpec.post enc Tryd.prog Tryd.f5 false true false false W args v W' := by
  have hsz : (DataW.weightsEach Tryd.prog (Tryd.f5.params.toList ++ Rows.accessHoldsSixteenSpec.plain.varTypes Tryd.prog) (ds ++ gs)).all (· ≤ reachBytes) = true := hsz0
  have hval : ∀ (j : Nat) t v, Tryd.f5.params[j]? = some t → args[j]? = some v → Value.okWide Tryd.prog W .any base t v := hval0
  have hW' := hW
  obtain ⟨p, q, hA0, hV, rfl, hfz, hnd⟩ := hW
  have hA : DataW.TrodAll enc Tryd.prog W 0 (fun _ => true) true Tryd.f5.params.toList args.toList ds p := hA0
  rw [Tryd.params5] at hA hval hsz
  obtain ⟨v0, vs0, d0, ds0, p0, q0, hargs, rfl, rfl, h0, r0⟩ := trodAll_cons hA
  obtain ⟨v1, vs1, d1, ds1, p1, q1, rfl, rfl, rfl, h1, r1⟩ := trodAll_cons r0
  obtain ⟨rfl, rfl, rfl⟩ := trodAll_nil r1
  obtain rfl : args = #[v0, v1] := by cases args; simp_all
  obtain ⟨rfl, rfl⟩ := trodVars_none hV
  obtain ⟨a0, rfl, rfl, rfl, y0⟩ := open_string Tryd.underlying9 (hval 0 9 v0 rfl rfl) h0
  have w0 : a0.size ≤ 140737488351232 := by
    have z := sized_string hsz (j := 0) (t := 9) rfl rfl
    rw [Array.length_toList] at z
    exact z
  obtain ⟨a1, rfl, rfl, rfl, w1⟩ := open_int Tryd.underlying3 (hval 1 3 v1 rfl rfl) h1
  obtain ⟨k, hp⟩ := Pure.AccessHoldsSixteen a0 a1 w0 w1
  refine (Q.bursarlaw21_AccessHoldsSixteen.calls k a0 a1 true W  hp (Q.glob_of hsh hl)).mono fun e W' ⟨he, bel⟩ => ?_
  subst he
  exact ⟨_, rfl, _, _, _, [], _, [], hW', trodAll_mk1 (shut_bool Tryd.underlying4 _), (trodAll_cons_mk (shut_string Tryd.underlying9 y0) (trodAll_cons_mk (shut_int Tryd.underlying3 w1) trodAll_mk0)), rfl, bel.frame _, fun h => by cases h⟩
noncomputable def tab1 : Obj → Obj
  | .cells _ t frozen => .cells (Go.Pinned.utf8FirstZ.map fun (n : Nat) => Value.int .u8 (n : Int)).toArray t frozen
  | o => o
noncomputable def laidWorld (os : Os) : World :=
  { World.doorLaid Tryd.prog 138 os with heap := (World.doorLaid Tryd.prog 138 os).heap.modify 2 tab1 }
theorem laid_met (os : Os) : laidMet Tryd.prog Rows.accessHoldsSixteenRow.laid ((laidWorld os).forCall (fun _ _ => 0) ⟨#[], #[.string ByteArray.empty, .int .i64 0], []⟩).memory :=
  laidMet_of_run' 8 (by kernel_rfl) (by kernel_rfl)
theorem reads (os : Os) {H : Type} (enc : TypeId × Value → H) : ∃ places, DataW.whole enc Tryd.prog ((laidWorld os).forCall (fun _ _ => 0) ⟨#[], #[.string ByteArray.empty, .int .i64 0], []⟩).memory Tryd.f5.params.toList Rows.accessHoldsSixteenSpec.vars false (#[.string ByteArray.empty, .int .i64 0] : Array Value).toList 8 = some ([.lit (.string []), .lit (.int .i64 0)], [], places) :=
  ⟨[], by kernel_rfl⟩
set_option maxRecDepth 100000 in
theorem lifted (os : Os) (started : os.Started) (H : Type) (enc : TypeId × Value → H) (F : Stop.Interp) :
    ReturnsInHanded {} Tryd.checked os 5 .any ((OpenSpec.ofChange Rows.accessHoldsSixteenSpec).preRow enc Tryd.prog Tryd.f5 Rows.accessHoldsSixteenRow.domain false Rows.accessHoldsSixteenRow.laid) (((OpenSpec.ofChange Rows.accessHoldsSixteenSpec).at F).post enc Tryd.prog Tryd.f5 false true false false) := by
  obtain ⟨places, hx⟩ := reads os enc
  refine returnsInHanded_of_row (C := Tryd.checked) (s := OpenSpec.ofChange Rows.accessHoldsSixteenSpec) own started (by kernel_rfl) Tryd.func5
    (witness_row_at (enc := enc) (C := Tryd.checked) false (laidWorld os) #[.string ByteArray.empty, .int .i64 0] rfl (by kernel_rfl) (by kernel_rfl) (by kernel_rfl)
      (OpenSpec.preRow_of_cond 8 hx (by kernel_rfl) (fun k hk => by cases hk) (by kernel_rfl) (laid_met os))) ?_
  intro W base args ds gs before hval hW _ hcond hsz hl hsh _
  exact contract H enc W base args ds gs before hval hW hsz hsh hl
theorem said : Rows.AccessHoldsSixteenSaid :=
  OpenClaim.holds_of_cond 5 Tryd.f5 rfl rfl rfl rfl rfl rfl rfl ⟨rfl, rfl, rfl, rfl, rfl⟩ rfl rfl rfl rfl rfl (by kernel_rfl) Tryd.func5 (by kernel_rfl)
    (of_decide_eq_true (by kernel_rfl)) (by unfold Func.isWrapper; first | (rw [if_pos (by decide +kernel)]; kernel_rfl) | (rw [if_neg (by decide +kernel)]; exact ⟨rfl, rfl⟩))
    (fun os started H enc _ F => by rw [OpenClaim.pre_eq_preRow]; exact lifted os started H enc F)
theorem plain (f : FuncId) (fn : Func) (hf : Tryd.pinned.checked.prog.funcNamed "bursar/bursarlaw21.AccessHoldsSixteen" = some f) (hfn : Tryd.pinned.checked.prog.funcs[f]? = some fn) :
    false = Tryd.pinned.checked.prog.looks [] ∧ ∀ (j : Nat) t, fn.params[j]? = some t → Tryd.pinned.checked.prog.wantsStandIn t = false := by
  obtain rfl : f = 5 := Option.some.inj ((show Tryd.prog.funcNamed "bursar/bursarlaw21.AccessHoldsSixteen" = some 5 by kernel_rfl).symm.trans hf) |>.symm
  obtain rfl : fn = Tryd.f5 := (Option.some.inj (Tryd.func5.symm.trans hfn)).symm
  refine ⟨by kernel_rfl, fun j t ht => ?_⟩
  rw [Tryd.params5] at ht
  have hall : ∀ x ∈ [9, 3], Tryd.prog.wantsStandIn x = false := by
    intro x hx; simp only [List.mem_cons, List.mem_nil_iff, or_false] at hx; rcases hx with rfl | rfl <;> kernel_rfl
  exact hall t (by simpa using Array.mem_of_getElem? ht)
theorem card : Rows.AccessHoldsSixteenCardSaid :=
  Claim7.holds_tied_plain_at .later [] _ _ _ _ said (fun _ h => by cases h) (by kernel_rfl) (fun _ h => by cases h) accessHoldsSixteen_row_tie rfl ⟨rfl, rfl⟩ (by kernel_rfl) rfl plain (by kernel_rfl)
end Go.Proofs.YtphddbijdfmpjaaDoor.accessHoldsSixteen
namespace Go.Proofs.YtphddbijdfmpjaaDoor
theorem accessHoldsSixteen_holds : Rows.AccessHoldsSixteenCardSaid := accessHoldsSixteen.card
end Go.Proofs.YtphddbijdfmpjaaDoor
