/- What the statement AccessIsItsBindingsCardSaid rests on, part 4 of 5: walks and plain laws; what of the printer's words it leans on. -/
import Derived.Test.YtphddbijdfmpjaaDoorProg
import Derived.Test.YtphddbijdfmpjaaDoorMAI3
import Derived.ProofKit
import Derived.Shelf.SlGeneric
import Derived.Shelf.SlSortCmp.WholeK
import Derived.Ground.SlsfProg
import Derived.Ground.NamesProg
import Derived.Shelf.SlSortCmp.NoneTotal
namespace Go.Proofs.YtphddbijdfmpjaaDoor.Wr
open Go.RowKit Go.MapRaw Go.Proofs.YtphddbijdfmpjaaDoorW.PrintWords Go.Proofs.YtphddbijdfmpjaaDoorW.PrintLast Go.Proofs.YtphddbijdfmpjaaDoor.Q
open Go.ChangeMaps (setBlock)
set_option linter.unusedVariables false
set_option linter.unusedSimpArgs false
def formedB (b : Bnd) : Bool := decide (pathS b.path = 0) && nameB b.name && nameB b.subject && decide (b.verb ≥ 0) && decide (b.verb ≤ 3)
theorem formed_f (b : Bnd) : ∃ k, object_formedBinding.f k b.path b.name b.subject b.verb = some (formedB b) := by
  obtain ⟨K, hK⟩ := path_ev b.path
  refine ⟨K, ?_⟩
  have h : label_Path.f K b.path = _ := hK K (Nat.le_refl _)
  unfold object_formedBinding.f label_Name.f formedB
  rw [h]
  simp only [Option.bind_some]
  by_cases h1 : pathS b.path = 0 <;> simp [h1]
  by_cases h2 : nameB b.name = true <;> simp [h2]
  by_cases h3 : nameB b.subject = true <;> simp [h3]
  by_cases h4 : b.verb ≥ 0 <;> simp [h4]
theorem formed_ok (b : Bnd) (w : World) (hG : Glob w) : Calls Tryd.prog 66 #[eV b] w fun e w' => e = .returned (.bool (formedB b)) ∧ Below w.heap.size w w' := by
  obtain ⟨k, h⟩ := formed_f b
  exact object_formedBinding.calls k _ _ _ _ _ w h hG
theorem formed_small {b : Bnd} (h : formedB b = true) : b.path.size < 128 ∧ b.name.size < 128 ∧ b.subject.size < 128 ∧ 0 ≤ b.verb ∧ b.verb ≤ 3 := by
  unfold formedB at h
  simp only [Bool.and_eq_true, decide_eq_true_eq] at h
  obtain ⟨⟨⟨⟨h1, h2⟩, h3⟩, h4⟩, h5⟩ := h
  have n2 := name_size h2
  have n3 := name_size h3
  have : b.path.size ≤ 64 := by
    rcases path_cases b.path with ⟨ns, hp, _⟩ | ⟨_, hb⟩
    · exact hp.size
    · unfold pathS at h1; rw [hb] at h1; cases h1
  exact ⟨by omega, by omega, by omega, h4, h5⟩
set_option maxRecDepth 100000 in
set_option maxHeartbeats 4000000 in
theorem encode_ok (b : Bnd) (w : World) (hG : Glob w) : Calls Tryd.prog 52 #[eV b] w fun e w' => (∃ s, e = .returned (.tuple #[.string s, .int .i64 (if formedB b = true then 0 else 130)])) ∧ Below w.heap.size w w' := by
  obtain ⟨bp, bn, bs, bv⟩ := b
  have hu27 := Tryd.underlying27
  have key := formed_ok ⟨bp, bn, bs, bv⟩
  unfold eV at key ⊢
  by_cases hf : formedB ⟨bp, bn, bs, bv⟩ = true
  · obtain ⟨s1, s2, s3, v0, v3⟩ := formed_small hf
    simp only at s1 s2 s3 v0 v3
    rw [if_pos hf]
    rw [hf] at key
    have hL := hG.letterB
    have KEY := Lib.hid key
    have hwv : IntKind.u8.wrap bv = bv := by rw [IntKind.wrap_u8]; omega
    have r1 := Lib.hid (show (((headOf 66 bp bn).length + 1 + bs.size : Nat) : Int) ≤ 1048576 by simp [headOf, blen]; omega)
    have r2 := Lib.hid (show (((headOf 66 bp bn ++ [(bs.size : Int)] ++ bytesOf bs).length + 1 : Nat) : Int) ≤ 1048576 by simp [headOf, blen]; omega)
    have r3 := Lib.hid (show (headOf 66 bp bn ++ [(bs.size : Int)] ++ bytesOf bs ++ [bv]).length ≤ 8192 by simp [headOf, blen]; omega)
    have hal := (Below.refl w.heap.size w).alloc (Nat.le_refl _) (.cells #[.string bp, .string bn, .string bs, .int .i64 bv] 27)
    have hnew := blk_new w (.cells #[.string bp, .string bn, .string bs, .int .i64 bv] 27)
    have hG1 := Glob.below hG hal
    have AL := Lib.hid hal
    have NW := Lib.hid hnew
    have GL := Lib.hid hG1
    clear key hG1 hal hnew hG hL
    go_enter Tryd.func52, Tryd.ntmps52
    go_upto_region 1 with fail
    generalize w.alloc _ = w1 at AL NW GL ⊢
    have hd0 := (blk_cell NW.out 0).trans rfl
    have hd1 := (blk_cell NW.out 1).trans rfl
    have hd2 := (blk_cell NW.out 2).trans rfl
    have hd3 := (blk_cell NW.out 3).trans rfl
    go_wp2_with (first
      | (go_at_call 66; refine (KEY.out _ GL.out).mono ?_; rintro e w2 ⟨rfl, hb2⟩; have B2 := Lib.hid (AL.out.trans (below_lower hb2 AL.out.size)); have N2 := Lib.hid (blk_below NW.out hb2); have hL2 := (Glob.below GL.out hb2).letterB; have hc0 := (blk_cell N2.out 0).trans rfl; have hc1 := (blk_cell N2.out 1).trans rfl; clear hb2)
      | (go_at_call 67; refine (begun_ok _ _ _ _ s1 s2).mono ?_; rintro e w3 ⟨g, rfl, h3, hb3⟩; have W3 := Lib.hid h3; have B3 := Lib.hid hb3; have N3 := Lib.hid (blk_below N2.out hb3); have hc2 := (blk_cell N3.out 2).trans rfl; clear h3 hb3)
      | (go_at_call 68; (with_reducible refine (text_ok _ w2.heap.size g 1048576 (headOf 66 bp bn) bs s3 W3.out (Int.le_refl _) r1.out B3.out.size).mono ?_); rintro e w4 ⟨rfl, h4, hb4⟩; have W4 := Lib.hid h4; have B4 := Lib.hid (B3.out.trans hb4); have N4 := Lib.hid (blk_below N2.out (B3.out.trans hb4)); have hc3 := (blk_cell N4.out 3).trans rfl; clear h4 hb4)
      | (go_at_call 69; (with_reducible refine (byte_ok _ w2.heap.size g 1048576 _ bv W4.out (Int.le_refl _) r2.out B4.out.size).mono ?_); rintro e w5 ⟨rfl, h5, hb5⟩; have W5 := Lib.hid h5; have B5 := Lib.hid (B4.out.trans hb5); clear h5 hb5)
      | (go_at_call 70; (with_reducible refine (done_ok _ w2.heap.size g 1048576 _ W5.out r3.out).mono ?_); rintro e w6 ⟨rfl, hb6⟩; have B6 := Lib.hid (B5.out.trans (below_lower hb6 B5.out.size)); clear hb6))
    go_ret2
    exact ⟨⟨_, rfl⟩, B2.out.trans (below_lower B6.out B2.out.size)⟩
  · rw [if_neg hf]
    rw [show formedB ⟨bp, bn, bs, bv⟩ = false by simpa using hf] at key
    have KEY := Lib.hid key
    have hal := (Below.refl w.heap.size w).alloc (Nat.le_refl _) (.cells #[.string bp, .string bn, .string bs, .int .i64 bv] 27)
    have hnew := blk_new w (.cells #[.string bp, .string bn, .string bs, .int .i64 bv] 27)
    have hG1 := Glob.below hG hal
    have AL := Lib.hid hal
    have NW := Lib.hid hnew
    have GL := Lib.hid hG1
    clear key hG1 hal hnew hG
    go_enter Tryd.func52, Tryd.ntmps52
    go_upto_region 1 with fail
    generalize w.alloc _ = w1 at AL NW GL ⊢
    have hd0 := (blk_cell NW.out 0).trans rfl
    have hd1 := (blk_cell NW.out 1).trans rfl
    have hd2 := (blk_cell NW.out 2).trans rfl
    have hd3 := (blk_cell NW.out 3).trans rfl
    go_wp2_with (go_at_call 66; refine (KEY.out _ GL.out).mono ?_; rintro e w2 ⟨rfl, hb2⟩; have B2 := Lib.hid (AL.out.trans (below_lower hb2 AL.out.size)); clear hb2)
    go_ret2
    exact ⟨⟨_, rfl⟩, B2.out⟩
set_option maxRecDepth 100000 in
set_option maxHeartbeats 4000000 in
theorem valid_ok (b : Bnd) (w : World) (hG : Glob w) : Calls Tryd.prog 33 #[eV b] w fun e w' => e = .returned (.int .i64 (if formedB b = true then 0 else 130)) ∧ Below w.heap.size w w' := by
  obtain ⟨bp, bn, bs, bv⟩ := b
  have hu27 := Tryd.underlying27
  have key := encode_ok ⟨bp, bn, bs, bv⟩
  generalize (if formedB ⟨bp, bn, bs, bv⟩ = true then (0 : Int) else 130) = res at key ⊢
  unfold eV at key ⊢
  have KEY := Lib.hid key
  have hal := (Below.refl w.heap.size w).alloc (Nat.le_refl _) (.cells #[.string bp, .string bn, .string bs, .int .i64 bv] 27)
  have hnew := blk_new w (.cells #[.string bp, .string bn, .string bs, .int .i64 bv] 27)
  have hG1 := Glob.below hG hal
  have AL := Lib.hid hal
  have NW := Lib.hid hnew
  have GL := Lib.hid hG1
  clear key hG1 hal hnew hG
  go_enter Tryd.func33, Tryd.ntmps33
  go_upto_region 1 with fail
  generalize w.alloc _ = w1 at AL NW GL ⊢
  have hd0 := (blk_cell NW.out 0).trans rfl
  have hd1 := (blk_cell NW.out 1).trans rfl
  have hd2 := (blk_cell NW.out 2).trans rfl
  have hd3 := (blk_cell NW.out 3).trans rfl
  go_wp2_with (go_at_call 52; refine (KEY.out _ GL.out).mono ?_; rintro e w2 ⟨⟨s, rfl⟩, hb2⟩; have B2 := Lib.hid (AL.out.trans (below_lower hb2 AL.out.size)); clear hb2)
  go_ret
  exact ⟨rfl, B2.out⟩
end Go.Proofs.YtphddbijdfmpjaaDoor.Wr
namespace Go.Proofs.YtphddbijdfmpjaaDoor.Wr
open Go.RowKit Go.MapRaw Go.Proofs.YtphddbijdfmpjaaDoorW.PrintWords Go.Proofs.YtphddbijdfmpjaaDoorW.PrintLast Go.Proofs.YtphddbijdfmpjaaDoor.Q
open Go.ChangeMaps (setBlock)
set_option linter.unusedVariables false
set_option linter.unusedSimpArgs false
structure Off (b : Nat) (w w' : World) : Prop where
  os : w'.os = w.os
  tape : w'.tape = w.tape
  output : w'.output = w.output
  size : w.heap.size ≤ w'.heap.size
  block : ∀ k, k < w.heap.size → k ≠ b → w'.heap[k]? = w.heap[k]?
theorem Off.refl (b : Nat) (w : World) : Off b w w := ⟨rfl, rfl, rfl, Nat.le_refl _, fun _ _ _ => rfl⟩
theorem Off.trans {b : Nat} {u v w : World} (h : Off b u v) (k : Off b v w) : Off b u w :=
  ⟨k.os.trans h.os, k.tape.trans h.tape, k.output.trans h.output, Nat.le_trans h.size k.size, fun i hi hn => (k.block i (Nat.lt_of_lt_of_le hi h.size) hn).trans (h.block i hi hn)⟩
theorem Off.of_below {b : Nat} {w w' : World} (h : Below w.heap.size w w') : Off b w w' := ⟨h.os, h.tape, h.output, h.size, fun k hk _ => h.block k hk⟩
theorem Off.below {b : Nat} {w w' : World} (h : Off b w w') (hb : w.heap.size ≤ b) : Below w.heap.size w w' := ⟨h.os, h.tape, h.output, h.size, fun k hk => h.block k hk (by omega)⟩
theorem Off.belowB {B b : Nat} {w w' : World} (h : Off b w w') (hb : B ≤ b) (hB : B ≤ w.heap.size) : Below B w w' := ⟨h.os, h.tape, h.output, h.size, fun k hk => h.block k (by omega) (by omega)⟩
theorem Off.set (b : Nat) (w : World) (o : Obj) : Off b w (setBlock w b o) := ⟨rfl, rfl, rfl, by rw [set_size]; exact Nat.le_refl _, fun k _ hk => set_far _ _ _ _ hk⟩
structure TB (w : World) (t b : Nat) (M : Tab) : Prop where
  at_ : w.heap[t]? = some (.cells #[.map (some b)] 68 (0, 0))
  ne : t ≠ b
  holds : Holds eK eV w b M
  nodup : (M.map (·.1)).Nodup
  fits : ∀ p ∈ M, p.1 = (p.2.path, p.2.name) ∧ formedB p.2 = true
theorem TB.below {w w' : World} {t b : Nat} {M : Tab} (h : TB w t b M) (hb : Below w.heap.size w w') : TB w' t b M :=
  ⟨blk_below h.at_ hb, h.ne, Holds_move h.holds (hb.block _ (Holds_lt h.holds)), h.nodup, h.fits⟩
theorem TB.cell {w : World} {t b : Nat} {M : Tab} (h : TB w t b M) : w.cell? ⟨t, 0, none⟩ = some (.map (some b)) := (blk_cell h.at_ 0).trans rfl
theorem TB.off {w w' : World} {t b : Nat} {M M' : Tab} (h : TB w t b M) (ho : Off b w w') (hH : Holds eK eV w' b M') (hn : (M'.map (·.1)).Nodup) (hf : ∀ p ∈ M', p.1 = (p.2.path, p.2.name) ∧ formedB p.2 = true) : TB w' t b M' :=
  ⟨(ho.block _ (blk_lt h.at_) h.ne).trans h.at_, h.ne, hH, hn, hf⟩
theorem TB.belowB {B : Nat} {w w' : World} {t b : Nat} {M : Tab} (h : TB w t b M) (hb : Below B w w') (ht : t < B) (hb' : b < B) : TB w' t b M :=
  ⟨(hb.block t ht).trans h.at_, h.ne, Holds_move h.holds (hb.block b hb'), h.nodup, h.fits⟩
theorem TB.lt {w : World} {t b : Nat} {M : Tab} (h : TB w t b M) : t < w.heap.size ∧ b < w.heap.size := ⟨blk_lt h.at_, Holds_lt h.holds⟩
set_option maxHeartbeats 4000000 in
theorem newT_ok (w : World) : Calls Tryd.prog 29 #[] w fun e w' => ∃ t b, e = .returned (.pointer (some ⟨t, 0, none⟩)) ∧ TB w' t b [] ∧ w.heap.size ≤ t ∧ w.heap.size ≤ b ∧ Below w.heap.size w w' := by
  have hu66 := Tryd.underlying66
  have hmk : (Instr.makeMap 66 none).run Tryd.prog w = .ok (.map (some w.heap.size)) (w.alloc (.map #[] 0)) := rfl
  go_enter Tryd.func29, Tryd.ntmps29
  go_wp2
  go_ret
  have hs : (w.alloc (.map #[] 0)).heap.size = w.heap.size + 1 := by simp
  have hb0 : (w.alloc (.map #[] 0)).heap[w.heap.size]? = some (.map #[] 0) := heap_alloc_new w _
  have h1 := heap_alloc_new (w.alloc (.map #[] 0)) (.cells #[.map (some w.heap.size)] 68)
  rw [hs] at h1
  refine ⟨_, w.heap.size, rfl, ⟨h1, ?_, ⟨#[], 0, (heap_alloc_old _ _ (by rw [hs]; omega)).trans hb0, ⟨rfl, by simp, by simp⟩⟩, by simp, by simp⟩, ?_, Nat.le_refl _, ((Below.refl _ _).alloc (Nat.le_refl _) _).alloc ?_ _⟩
  all_goals (first | omega | (rw [hs]; omega))
end Go.Proofs.YtphddbijdfmpjaaDoor.Wr
namespace Go.Proofs.YtphddbijdfmpjaaDoor.Wr
open Go.RowKit Go.MapRaw Go.Proofs.YtphddbijdfmpjaaDoorW.PrintWords Go.Proofs.YtphddbijdfmpjaaDoorW.PrintLast Go.Proofs.YtphddbijdfmpjaaDoor.Q
open Go.ChangeMaps (setBlock)
set_option linter.unusedVariables false
set_option linter.unusedSimpArgs false
def setE (M : Tab) (b : Bnd) : Int := if formedB b = true then (if (getA (b.path, b.name) M).isNone = true ∧ 16 ≤ cnt b.path M then 194 else 0) else 130
def setM (M : Tab) (b : Bnd) : Tab := if setE M b = 0 then putA (b.path, b.name) b M else M
theorem put_mem {k : Key} {v : Bnd} {x : Key × Bnd} : ∀ {M : Tab}, x ∈ putA k v M → x = (k, v) ∨ x ∈ M
  | [], h => by simp [putA] at h; exact .inl h
  | p :: r, h => by
    unfold putA at h
    by_cases e : p.1 = k
    · rw [if_pos e] at h
      rcases List.mem_cons.1 h with h | h
      · exact .inl h
      · exact .inr (List.mem_cons_of_mem _ h)
    · rw [if_neg e] at h
      rcases List.mem_cons.1 h with h | h
      · exact .inr (by rw [h]; exact List.mem_cons_self)
      · exact (put_mem h).elim .inl fun h => .inr (List.mem_cons_of_mem _ h)
theorem put_len (k : Key) (v : Bnd) : ∀ M : Tab, (putA k v M).length ≤ M.length + 1
  | [] => by simp [putA]
  | p :: r => by
    have := put_len k v r
    unfold putA
    split
    · simp
    · simp only [List.length_cons]; omega
theorem setM_len (M : Tab) (b : Bnd) : (setM M b).length ≤ M.length + 1 := by
  unfold setM
  split
  · exact put_len _ _ M
  · omega
theorem setM_nodup {M : Tab} (b : Bnd) (h : (M.map (·.1)).Nodup) : ((setM M b).map (·.1)).Nodup := by
  unfold setM
  split
  · exact nodup_put _ _ M h
  · exact h
theorem setM_fits {M : Tab} (b : Bnd) (h : ∀ p ∈ M, p.1 = (p.2.path, p.2.name) ∧ formedB p.2 = true) : ∀ p ∈ setM M b, p.1 = (p.2.path, p.2.name) ∧ formedB p.2 = true := by
  unfold setM
  split
  · rename_i h0
    intro p hp
    rcases put_mem hp with rfl | hp
    · refine ⟨rfl, ?_⟩
      by_cases hf : formedB b = true
      · exact hf
      · unfold setE at h0; rw [if_neg hf] at h0; cases h0
    · exact h p hp
  · exact h
set_option maxRecDepth 100000 in
set_option maxHeartbeats 8000000 in
theorem set_ok (w : World) (t b : Nat) (M : Tab) (bd : Bnd) (hT : TB w t b M) (hG : Glob w) (hM : M.length ≤ 2513169434843) :
    Calls Tryd.prog 20 #[.pointer (some ⟨t, 0, none⟩), eV bd] w fun e w' => e = .returned (.int .i64 (setE M bd)) ∧ TB w' t b (setM M bd) ∧ Off b w w' := by
  obtain ⟨bp, bn, bs, bv⟩ := bd
  have hu27 := Tryd.underlying27
  have hu70 := Tryd.underlying70
  have key := valid_ok ⟨bp, bn, bs, bv⟩
  have hsl := setM_nodup (M := M) ⟨bp, bn, bs, bv⟩ hT.nodup
  have hsf := setM_fits (M := M) ⟨bp, bn, bs, bv⟩ hT.fits
  by_cases hf : formedB ⟨bp, bn, bs, bv⟩ = true
  · rw [if_pos hf] at key
    have hE : setE M ⟨bp, bn, bs, bv⟩ = if (getA (bp, bn) M).isNone = true ∧ 16 ≤ cnt bp M then 194 else 0 := by unfold setE; rw [if_pos hf]
    unfold eV at key ⊢
    have KEY := Lib.hid key
    have hal := (Below.refl w.heap.size w).alloc (Nat.le_refl _) (.cells #[.string bp, .string bn, .string bs, .int .i64 bv] 27)
    have hnew := blk_new w (.cells #[.string bp, .string bn, .string bs, .int .i64 bv] 27)
    have hG1 := Glob.below hG hal
    have hT1 := TB.below hT hal
    have AL := Lib.hid hal
    have NW := Lib.hid hnew
    have GL := Lib.hid hG1
    have TL := Lib.hid hT1
    have HE := Lib.hid hE
    have HM := Lib.hid hM
    have HSL := Lib.hid hsl
    have HSF := Lib.hid hsf
    clear key hG1 hal hnew hG hT1 hT hE hM hsl hsf hf
    go_enter Tryd.func20, Tryd.ntmps20
    go_upto_region 1 with fail
    generalize w.alloc _ = w1 at AL NW GL TL ⊢
    have hd0 := (blk_cell NW.out 0).trans rfl
    have hd1 := (blk_cell NW.out 1).trans rfl
    have hd2 := (blk_cell NW.out 2).trans rfl
    have hd3 := (blk_cell NW.out 3).trans rfl
    go_upto_region 4 with (go_at_call 33; refine (KEY.out _ GL.out).mono ?_; rintro e w2 ⟨rfl, hb2⟩; have B2 := Lib.hid (AL.out.trans (below_lower hb2 AL.out.size)); have N2 := Lib.hid (blk_below NW.out hb2); have T2 := Lib.hid (TB.below TL.out hb2); have he0 := (blk_cell N2.out 0).trans rfl; have he1 := (blk_cell N2.out 1).trans rfl; have he2 := (blk_cell N2.out 2).trans rfl; have he3 := (blk_cell N2.out 3).trans rfl; clear hb2)
    have hal3 := B2.out.alloc (Nat.le_trans (Nat.le_refl _) B2.out.size) (.cells #[.string bp, .string bn] 70)
    have hb3 := (Below.refl w2.heap.size w2).alloc (Nat.le_refl _) (.cells #[.string bp, .string bn] 70)
    have hT3 := TB.below T2.out hb3
    have hN3 := blk_below N2.out hb3
    have hP3 := blk_new w2 (.cells #[.string bp, .string bn] 70)
    have AL3 := Lib.hid hal3
    have TL3 := Lib.hid hT3
    have NW3 := Lib.hid hN3
    have NP3 := Lib.hid hP3
    have HPP := Lib.hid B2.out.size
    obtain ⟨pp, hpp⟩ : ∃ pp, pp = w2.heap.size := ⟨_, rfl⟩
    rw [← hpp] at NP3 HPP ⊢
    clear hal3 hb3 hT3 hN3 hP3 hpp T2 N2 B2 AL TL NW GL
    generalize w2.alloc _ = w3 at AL3 TL3 NW3 NP3 ⊢
    clear hd0 hd1 hd2 hd3 he0 he1 he2 he3
    have hz := Tryd.zeroValue27 w3
    have hlk := fun w' (h : Holds eK eV w' b M) => h.lookup kind_pl (fun a => ⟨a, rfl⟩) eqPl_iff 66 27 Tryd.underlying66 (bp, bn) _ (Tryd.zeroValue27 w') true
    obtain ⟨c, hc⟩ : ∃ c : Bnd, ∀ w', Holds eK eV w' b M → (Instr.lookup 66 (.map (some b)) (.agg #[.string bp, .string bn]) true).run Tryd.prog w' = .ok (.tuple #[.agg #[.string c.path, .string c.name, .string c.subject, .int .i64 c.verb], .bool (getA (bp, bn) M).isSome]) w' := by
      refine ⟨(getA (bp, bn) M).getD ⟨⟨#[]⟩, ⟨#[]⟩, ⟨#[]⟩, 0⟩, fun w' h => (hlk w' h).trans ?_⟩
      cases getA (bp, bn) M <;> rfl
    obtain ⟨there, hth⟩ : ∃ x, x = (getA (bp, bn) M).isSome := ⟨_, rfl⟩
    rw [← hth] at hc
    have HC := Lib.hid hc
    have HTH := Lib.hid hth
    clear hz hlk hc hth
    obtain ⟨cp, cn, cs, cv⟩ := c
    refine start_ (n := 12) (S := fun w' => w'.cell? ⟨t, 0, none⟩ = some (.map (some b)) ∧ w'.cell? ⟨pp, 0, none⟩ = some (.string bp) ∧ w'.cell? ⟨pp, 1, none⟩ = some (.string bn) ∧ (Instr.lookup 66 (.map (some b)) (.agg #[.string bp, .string bn]) true).run Tryd.prog w' = .ok (.tuple #[.agg #[.string cp, .string cn, .string cs, .int .i64 cv], .bool there]) w') (ds := []) (bl 0 12) (by kernel_rfl) rfl rfl ⟨TL3.out.cell, (blk_cell NP3.out 0).trans rfl, (blk_cell NP3.out 1).trans rfl, HC.out _ (Holds_move TL3.out.holds rfl)⟩ (fun hHeld => ?_)
    have hwd := drew_below w3
    have hT4 := TB.below TL3.out hwd
    have hN4 := blk_below NW3.out hwd
    have hP4 := blk_below NP3.out hwd
    have hA4 := AL3.out.trans (below_lower hwd AL3.out.size)
    have T4 := Lib.hid hT4
    have N4 := Lib.hid hN4
    have P4 := Lib.hid hP4
    have A4 := Lib.hid hA4
    clear hwd hT4 hN4 hP4 hA4 TL3 NW3 NP3 AL3
    generalize w3.drew = wd at T4 N4 P4 A4 hHeld ⊢
    refine pure_ (i := 0) (N := some 17) (v := ?_) (a' := ?_) (bl 1 11) rfl rfl (by kernel_rfl) (fun _ _ _ h => h) (Or.inl ⟨by rfl, ?_⟩) ?_ ?_
    rotate_left
    · intro w'
      go_simp
      with_reducible rfl
    rotate_left
    · simp only [Act.put, List.setIfInBounds_toArray, List.set_cons_zero, List.set_cons_succ, i64_w, i32_w]
      rfl
    refine pure_ (i := 1) (N := some 18) (v := ?_) (a' := ?_) (bl 2 10) rfl rfl (by kernel_rfl) (fun _ _ _ h => h) (Or.inl ⟨by rfl, ?_⟩) ?_ ?_
    rotate_left
    · intro w'
      go_simp
      with_reducible rfl
    rotate_left
    · simp only [Act.put, List.setIfInBounds_toArray, List.set_cons_zero, List.set_cons_succ, i64_w, i32_w]
      rfl
    refine pure_ (i := 2) (N := some 19) (v := ?_) (a' := ?_) (bl 3 9) rfl rfl (by kernel_rfl) (fun _ _ _ h => h) (Or.inl ⟨by rfl, ?_⟩) ?_ ?_
    rotate_left
    · intro w'
      go_simp
      with_reducible rfl
    rotate_left
    · simp only [Act.put, List.setIfInBounds_toArray, List.set_cons_zero, List.set_cons_succ, i64_w, i32_w]
      rfl
    refine take_ (i := 3) (N := some 20) (v := ?_) (a' := ?_) (bl 4 8) rfl rfl (by kernel_rfl) (fun _ _ _ h => h) (Or.inl ⟨by rfl, ?_⟩) hHeld ?_ ?_
    rotate_left
    · rintro w' ⟨s0, s1, s2, s3⟩
      go_simp
      with_reducible rfl
    rotate_left
    · simp only [Act.put, List.setIfInBounds_toArray, List.set_cons_zero, List.set_cons_succ, i64_w, i32_w]
      rfl
    refine take_ (i := 4) (N := some 21) (v := ?_) (a' := ?_) (bl 5 7) rfl rfl (by kernel_rfl) (fun _ _ _ h => h) (Or.inl ⟨by rfl, ?_⟩) hHeld ?_ ?_
    rotate_left
    · rintro w' ⟨s0, s1, s2, s3⟩
      go_simp
      with_reducible rfl
    rotate_left
    · simp only [Act.put, List.setIfInBounds_toArray, List.set_cons_zero, List.set_cons_succ, i64_w, i32_w]
      rfl
    refine take_ (i := 5) (N := some 22) (v := ?_) (a' := ?_) (bl 6 6) rfl rfl (by kernel_rfl) (fun _ _ _ h => h) (Or.inl ⟨by rfl, ?_⟩) hHeld ?_ ?_
    rotate_left
    · rintro w' ⟨s0, s1, s2, s3⟩
      go_simp
      with_reducible rfl
    rotate_left
    · simp only [Act.put, List.setIfInBounds_toArray, List.set_cons_zero, List.set_cons_succ, i64_w, i32_w]
      rfl
    refine pure_ (i := 6) (N := some 16) (v := ?_) (a' := ?_) (bl 7 5) rfl rfl (by kernel_rfl) (fun _ _ _ h => h) (Or.inl ⟨by rfl, ?_⟩) ?_ ?_
    rotate_left
    · intro w'
      go_simp
      with_reducible rfl
    rotate_left
    · simp only [Act.put, List.setIfInBounds_toArray, List.set_cons_zero, List.set_cons_succ, i64_w, i32_w]
      rfl
    refine pure_ (i := 7) (N := some 23) (v := ?_) (a' := ?_) (bl 8 4) rfl rfl (by kernel_rfl) (fun _ _ _ h => h) (Or.inl ⟨by rfl, ?_⟩) ?_ ?_
    rotate_left
    · intro w'
      go_simp
      with_reducible rfl
    rotate_left
    · simp only [Act.put, List.setIfInBounds_toArray, List.set_cons_zero, List.set_cons_succ, i64_w, i32_w]
      rfl
    refine pure_ (i := 8) (N := some 24) (v := ?_) (a' := ?_) (bl 9 3) rfl rfl (by kernel_rfl) (fun _ _ _ h => h) (Or.inl ⟨by rfl, ?_⟩) ?_ ?_
    rotate_left
    · intro w'
      go_simp
      with_reducible rfl
    rotate_left
    · simp only [Act.put, List.setIfInBounds_toArray, List.set_cons_zero, List.set_cons_succ, i64_w, i32_w]
      rfl
    refine one_ (i := 9) (N := some 6) (bl 10 2) rfl rfl (by kernel_rfl) (by decide) (fun K hK => ?_)
    refine value_ (v := .pointer (some ⟨wd.heap.size, 0, none⟩)) (w1 := wd.alloc (.cells #[.string ⟨#[]⟩, .string ⟨#[]⟩, .string ⟨#[]⟩, .int .i64 0] 27)) (by rfl) rfl ?_ ?_
    · go_simp
    have hal5 := (Below.refl wd.heap.size wd).alloc (Nat.le_refl _) (.cells #[.string ⟨#[]⟩, .string ⟨#[]⟩, .string ⟨#[]⟩, .int .i64 0] 27)
    have hT5 := TB.below T4.out hal5
    have hN5 := blk_below N4.out hal5
    have hP5 := blk_below P4.out hal5
    have hA5 := A4.out.trans (below_lower hal5 A4.out.size)
    have hQ5 := blk_new wd (.cells #[.string ⟨#[]⟩, .string ⟨#[]⟩, .string ⟨#[]⟩, .int .i64 0] 27)
    have T5 := Lib.hid hT5
    have N5 := Lib.hid hN5
    have P5 := Lib.hid hP5
    have A5 := Lib.hid hA5
    have Q5 := Lib.hid hQ5
    have HQ := Lib.hid (show t < wd.heap.size ∧ b < wd.heap.size ∧ w.heap.size < wd.heap.size ∧ pp < wd.heap.size from ⟨T4.out.lt.1, T4.out.lt.2, blk_lt N4.out, blk_lt P4.out⟩)
    have HA := Lib.hid A4.out.size
    obtain ⟨qq, hqq⟩ : ∃ qq, qq = wd.heap.size := ⟨_, rfl⟩
    rw [← hqq] at Q5 HQ HA ⊢
    clear hal5 hT5 hN5 hP5 hA5 hQ5 hqq T4 N4 P4 A4
    generalize wd.alloc _ = w5 at T5 N5 P5 A5 Q5 ⊢
    refine hK.out _ _ ⟨T5.out.cell, (blk_cell P5.out 0).trans rfl, (blk_cell P5.out 1).trans rfl, HC.out _ T5.out.holds⟩ (fun hHeld => ?_)
    clear hK K
    refine norm_ (a' := ?_) ?_ ?_
    rotate_left
    · show Act.put _ (some 6) _ = _
      simp only [Act.put, List.setIfInBounds_toArray, List.set_cons_zero, List.set_cons_succ, i64_w, i32_w]
      rfl
    refine one_ (i := 10) (N := none) (bl 11 1) rfl rfl (by kernel_rfl) (by decide) (fun K hK => ?_)
    have hf0 := blk_frozen Q5.out 0
    have hf1 := blk_frozen Q5.out 1
    have hf2 := blk_frozen Q5.out 2
    have hf3 := blk_frozen Q5.out 3
    have hcs0 := (blk_cell Q5.out 0).trans rfl
    have hcs1 := (blk_cell Q5.out 1).trans rfl
    have hcs2 := (blk_cell Q5.out 2).trans rfl
    have hcs3 := (blk_cell Q5.out 3).trans rfl
    refine skip_ (w1 := ?_) (by rfl) rfl ?_ ?_
    rotate_left
    · go_simp
      rfl
    have hbq := ((((Below.refl qq w5).setCell (p := ⟨qq, 0, none⟩) (Nat.le_refl qq) (.string cp)).setCell (p := ⟨qq, 1, none⟩) (Nat.le_refl qq) (.string cn)).setCell (p := ⟨qq, 2, none⟩) (Nat.le_refl qq) (.string cs)).setCell (p := ⟨qq, 3, none⟩) (Nat.le_refl qq) (.int .i64 cv)
    have T6 := Lib.hid (T5.out.belowB hbq HQ.out.1 HQ.out.2.1)
    have N6 := Lib.hid ((hbq.block _ HQ.out.2.2.1).trans N5.out)
    have P6 := Lib.hid ((hbq.block _ HQ.out.2.2.2).trans P5.out)
    have A6 := Lib.hid (A5.out.trans (below_lower hbq (Nat.le_of_lt HQ.out.2.2.1)))
    clear hf0 hf1 hf2 hf3 hcs0 hcs1 hcs2 hcs3 hbq T5 N5 P5 A5 Q5
    generalize World.setCell _ _ _ = w6 at T6 N6 P6 A6 ⊢
    refine hK.out _ _ ⟨T6.out.cell, (blk_cell P6.out 0).trans rfl, (blk_cell P6.out 1).trans rfl, HC.out _ T6.out.holds⟩ (fun hHeld => ?_)
    clear hK K
    refine pure_ (i := 11) (N := some 7) (v := ?_) (a' := ?_) (bl 12 0) rfl rfl (by kernel_rfl) (fun _ _ _ h => h) (Or.inl ⟨by rfl, ?_⟩) ?_ ?_
    rotate_left
    · intro w'
      go_simp
      with_reducible rfl
    rotate_left
    · simp only [Act.put, List.setIfInBounds_toArray, List.set_cons_zero, List.set_cons_succ, i64_w, i32_w]
      rfl
    refine done_ (by kernel_rfl) ?_
    clear hHeld HC HQ HA
    have hd0 := (blk_cell N6.out 0).trans rfl
    have hd1 := (blk_cell N6.out 1).trans rfl
    have hd2 := (blk_cell N6.out 2).trans rfl
    have hd3 := (blk_cell N6.out 3).trans rfl
    have hmany := many_ok w6 t b M bp T6.out.cell T6.out.holds HM.out
    have MANY := Lib.hid hmany
    clear hmany
    cases there
    · by_cases h16 : 16 ≤ cnt bp M
      · have hdec : decide ((cnt bp M : Int) ≥ 16) = true := decide_eq_true (by omega)
        have H16 := Lib.hid h16
        clear h16
        go_wp2_with (go_at_call 45; refine MANY.out.mono ?_; rintro e w7 ⟨rfl, hb7⟩; have B7 := Lib.hid hb7; clear hb7)
        go_ret
        have e1 : setE M ⟨bp, bn, bs, bv⟩ = 194 := by rw [HE.out, if_pos ⟨by simpa using HTH.out.symm, H16.out⟩]
        have e2 : setM M ⟨bp, bn, bs, bv⟩ = M := by unfold setM; rw [e1, if_neg (by decide)]
        exact ⟨by rw [e1] <;> rfl, by rw [e2]; exact T6.out.below B7.out, Off.of_below (A6.out.trans (below_lower B7.out A6.out.size))⟩
      · have hdec : decide ((cnt bp M : Int) ≥ 16) = false := decide_eq_false (by omega)
        have H16 := Lib.hid h16
        clear h16
        go_upto_region 7 with (go_at_call 45; refine MANY.out.mono ?_; rintro e w7 ⟨rfl, hb7⟩; have B7 := Lib.hid hb7; clear hb7)
        have T7 := Lib.hid (T6.out.below B7.out)
        have N7 := Lib.hid (blk_below N6.out B7.out)
        have P7 := Lib.hid (blk_below P6.out B7.out)
        have A7 := Lib.hid (A6.out.trans (below_lower B7.out A6.out.size))
        clear T6 N6 P6 A6 B7 MANY hdec
        have hE0 : setE M ⟨bp, bn, bs, bv⟩ = 0 := by rw [HE.out, if_neg (fun h => H16.out h.2)]
        have hM0 : setM M ⟨bp, bn, bs, bv⟩ = putA (bp, bn) ⟨bp, bn, bs, bv⟩ M := by unfold setM; rw [if_pos hE0]
        have HM0 := Lib.hid hM0
        have HE0 := Lib.hid hE0
        clear hE0 hM0 hd0 hd1 hd2 hd3
        refine start_ (n := 7) (S := fun w' => w'.cell? ⟨t, 0, none⟩ = some (.map (some b)) ∧ w'.cell? ⟨pp, 0, none⟩ = some (.string bp) ∧ w'.cell? ⟨pp, 1, none⟩ = some (.string bn) ∧ w'.cell? ⟨w.heap.size, 0, none⟩ = some (.string bp) ∧ w'.cell? ⟨w.heap.size, 1, none⟩ = some (.string bn) ∧ w'.cell? ⟨w.heap.size, 2, none⟩ = some (.string bs) ∧ w'.cell? ⟨w.heap.size, 3, none⟩ = some (.int .i64 bv)) (ds := [6]) (bl 0 7) (by kernel_rfl) rfl rfl ⟨T7.out.cell, (blk_cell P7.out 0).trans rfl, (blk_cell P7.out 1).trans rfl, (blk_cell N7.out 0).trans rfl, (blk_cell N7.out 1).trans rfl, (blk_cell N7.out 2).trans rfl, (blk_cell N7.out 3).trans rfl⟩ (fun hHeld => ?_)
        have hwd := drew_below w7
        have T8 := Lib.hid (TB.below T7.out hwd)
        have A8 := Lib.hid (A7.out.trans (below_lower hwd A7.out.size))
        clear hwd T7 N7 P7 A7
        generalize w7.drew = wd at T8 A8 hHeld ⊢
        refine pure_ (i := 0) (N := some 34) (v := ?_) (a' := ?_) (bl 1 6) rfl rfl (by kernel_rfl) (fun _ _ _ h => h) (Or.inl ⟨by rfl, ?_⟩) ?_ ?_
        rotate_left
        · intro w'
          go_simp
          with_reducible rfl
        rotate_left
        · simp only [Act.put, List.setIfInBounds_toArray, List.set_cons_zero, List.set_cons_succ, i64_w, i32_w]
          rfl
        refine pure_ (i := 1) (N := some 35) (v := ?_) (a' := ?_) (bl 2 5) rfl rfl (by kernel_rfl) (fun _ _ _ h => h) (Or.inl ⟨by rfl, ?_⟩) ?_ ?_
        rotate_left
        · intro w'
          go_simp
          with_reducible rfl
        rotate_left
        · simp only [Act.put, List.setIfInBounds_toArray, List.set_cons_zero, List.set_cons_succ, i64_w, i32_w]
          rfl
        refine pure_ (i := 2) (N := some 36) (v := ?_) (a' := ?_) (bl 3 4) rfl rfl (by kernel_rfl) (fun _ _ _ h => h) (Or.inl ⟨by rfl, ?_⟩) ?_ ?_
        rotate_left
        · intro w'
          go_simp
          with_reducible rfl
        rotate_left
        · simp only [Act.put, List.setIfInBounds_toArray, List.set_cons_zero, List.set_cons_succ, i64_w, i32_w]
          rfl
        refine take_ (i := 3) (N := some 37) (v := ?_) (a' := ?_) (bl 4 3) rfl rfl (by kernel_rfl) (fun _ _ _ h => h) (Or.inl ⟨by rfl, ?_⟩) hHeld ?_ ?_
        rotate_left
        · rintro w' ⟨s0, s1, s2, s3, s4, s5, s6⟩
          go_simp
          with_reducible rfl
        rotate_left
        · simp only [Act.put, List.setIfInBounds_toArray, List.set_cons_zero, List.set_cons_succ, i64_w, i32_w]
          rfl
        refine take_ (i := 4) (N := some 38) (v := ?_) (a' := ?_) (bl 5 2) rfl rfl (by kernel_rfl) (fun _ _ _ h => h) (Or.inl ⟨by rfl, ?_⟩) hHeld ?_ ?_
        rotate_left
        · rintro w' ⟨s0, s1, s2, s3, s4, s5, s6⟩
          go_simp
          with_reducible rfl
        rotate_left
        · simp only [Act.put, List.setIfInBounds_toArray, List.set_cons_zero, List.set_cons_succ, i64_w, i32_w]
          rfl
        refine take_ (i := 5) (N := some 39) (v := ?_) (a' := ?_) (bl 6 1) rfl rfl (by kernel_rfl) (fun _ _ _ h => h) (Or.inl ⟨by rfl, ?_⟩) hHeld ?_ ?_
        rotate_left
        · rintro w' ⟨s0, s1, s2, s3, s4, s5, s6⟩
          go_simp
          with_reducible rfl
        rotate_left
        · simp only [Act.put, List.setIfInBounds_toArray, List.set_cons_zero, List.set_cons_succ, i64_w, i32_w]
          rfl
        refine last_ (i := 6) (N := none) (bl 7 0) rfl rfl (by kernel_rfl) (by decide) (fun K hK => ?_)
        have hup := T8.out.holds.update (P := Tryd.prog) kind_pl (fun a => ⟨a, rfl⟩) eqPl_iff 66 27 Tryd.underlying66 (bp, bn) ⟨bp, bn, bs, bv⟩
        obtain ⟨o, hrun, hho⟩ := hup
        have HHO := Lib.hid hho
        clear hho
        unfold eK eV at hrun
        refine skip_ (w1 := setBlock wd b o) (by rfl) rfl ?_ ?_
        · go_simp
        refine hK.out _ _ ?_
        clear hK K hrun
        refine done_ (by kernel_rfl) ?_
        have TF := Lib.hid (TB.off T8.out (Off.set b wd o) HHO.out (by rw [← HM0.out]; exact HSL.out) (by rw [← HM0.out]; exact HSF.out))
        have OF := Lib.hid ((Off.of_below (b := b) A8.out).trans (Off.set b wd o))
        clear T8 A8 HHO
        generalize setBlock wd b o = wz at TF OF ⊢
        go_wp2
        go_ret
        exact ⟨by rw [HE0.out] <;> rfl, by rw [HM0.out]; exact TF.out, OF.out⟩
    · go_upto_region 7 with fail
      have T7 := Lib.hid T6.out
      have N7 := Lib.hid N6.out
      have P7 := Lib.hid P6.out
      have A7 := Lib.hid A6.out
      clear T6 N6 P6 A6 MANY
      obtain ⟨w7, hw7⟩ : ∃ w7, w7 = w6 := ⟨_, rfl⟩
      rw [← hw7] at T7 N7 P7 A7 ⊢
      clear hw7
      have hE0 : setE M ⟨bp, bn, bs, bv⟩ = 0 := by rw [HE.out, if_neg (fun h => by have h1 := HTH.out; have h2 := h.1; rw [Option.isNone_iff_eq_none] at h2; rw [h2] at h1; cases h1)]
      have hM0 : setM M ⟨bp, bn, bs, bv⟩ = putA (bp, bn) ⟨bp, bn, bs, bv⟩ M := by unfold setM; rw [if_pos hE0]
      have HM0 := Lib.hid hM0
      have HE0 := Lib.hid hE0
      clear hE0 hM0 hd0 hd1 hd2 hd3
      refine start_ (n := 7) (S := fun w' => w'.cell? ⟨t, 0, none⟩ = some (.map (some b)) ∧ w'.cell? ⟨pp, 0, none⟩ = some (.string bp) ∧ w'.cell? ⟨pp, 1, none⟩ = some (.string bn) ∧ w'.cell? ⟨w.heap.size, 0, none⟩ = some (.string bp) ∧ w'.cell? ⟨w.heap.size, 1, none⟩ = some (.string bn) ∧ w'.cell? ⟨w.heap.size, 2, none⟩ = some (.string bs) ∧ w'.cell? ⟨w.heap.size, 3, none⟩ = some (.int .i64 bv)) (ds := [6]) (bl 0 7) (by kernel_rfl) rfl rfl ⟨T7.out.cell, (blk_cell P7.out 0).trans rfl, (blk_cell P7.out 1).trans rfl, (blk_cell N7.out 0).trans rfl, (blk_cell N7.out 1).trans rfl, (blk_cell N7.out 2).trans rfl, (blk_cell N7.out 3).trans rfl⟩ (fun hHeld => ?_)
      have hwd := drew_below w7
      have T8 := Lib.hid (TB.below T7.out hwd)
      have A8 := Lib.hid (A7.out.trans (below_lower hwd A7.out.size))
      clear hwd T7 N7 P7 A7
      generalize w7.drew = wd at T8 A8 hHeld ⊢
      refine pure_ (i := 0) (N := some 34) (v := ?_) (a' := ?_) (bl 1 6) rfl rfl (by kernel_rfl) (fun _ _ _ h => h) (Or.inl ⟨by rfl, ?_⟩) ?_ ?_
      rotate_left
      · intro w'
        go_simp
        with_reducible rfl
      rotate_left
      · simp only [Act.put, List.setIfInBounds_toArray, List.set_cons_zero, List.set_cons_succ, i64_w, i32_w]
        rfl
      refine pure_ (i := 1) (N := some 35) (v := ?_) (a' := ?_) (bl 2 5) rfl rfl (by kernel_rfl) (fun _ _ _ h => h) (Or.inl ⟨by rfl, ?_⟩) ?_ ?_
      rotate_left
      · intro w'
        go_simp
        with_reducible rfl
      rotate_left
      · simp only [Act.put, List.setIfInBounds_toArray, List.set_cons_zero, List.set_cons_succ, i64_w, i32_w]
        rfl
      refine pure_ (i := 2) (N := some 36) (v := ?_) (a' := ?_) (bl 3 4) rfl rfl (by kernel_rfl) (fun _ _ _ h => h) (Or.inl ⟨by rfl, ?_⟩) ?_ ?_
      rotate_left
      · intro w'
        go_simp
        with_reducible rfl
      rotate_left
      · simp only [Act.put, List.setIfInBounds_toArray, List.set_cons_zero, List.set_cons_succ, i64_w, i32_w]
        rfl
      refine take_ (i := 3) (N := some 37) (v := ?_) (a' := ?_) (bl 4 3) rfl rfl (by kernel_rfl) (fun _ _ _ h => h) (Or.inl ⟨by rfl, ?_⟩) hHeld ?_ ?_
      rotate_left
      · rintro w' ⟨s0, s1, s2, s3, s4, s5, s6⟩
        go_simp
        with_reducible rfl
      rotate_left
      · simp only [Act.put, List.setIfInBounds_toArray, List.set_cons_zero, List.set_cons_succ, i64_w, i32_w]
        rfl
      refine take_ (i := 4) (N := some 38) (v := ?_) (a' := ?_) (bl 5 2) rfl rfl (by kernel_rfl) (fun _ _ _ h => h) (Or.inl ⟨by rfl, ?_⟩) hHeld ?_ ?_
      rotate_left
      · rintro w' ⟨s0, s1, s2, s3, s4, s5, s6⟩
        go_simp
        with_reducible rfl
      rotate_left
      · simp only [Act.put, List.setIfInBounds_toArray, List.set_cons_zero, List.set_cons_succ, i64_w, i32_w]
        rfl
      refine take_ (i := 5) (N := some 39) (v := ?_) (a' := ?_) (bl 6 1) rfl rfl (by kernel_rfl) (fun _ _ _ h => h) (Or.inl ⟨by rfl, ?_⟩) hHeld ?_ ?_
      rotate_left
      · rintro w' ⟨s0, s1, s2, s3, s4, s5, s6⟩
        go_simp
        with_reducible rfl
      rotate_left
      · simp only [Act.put, List.setIfInBounds_toArray, List.set_cons_zero, List.set_cons_succ, i64_w, i32_w]
        rfl
      refine last_ (i := 6) (N := none) (bl 7 0) rfl rfl (by kernel_rfl) (by decide) (fun K hK => ?_)
      have hup := T8.out.holds.update (P := Tryd.prog) kind_pl (fun a => ⟨a, rfl⟩) eqPl_iff 66 27 Tryd.underlying66 (bp, bn) ⟨bp, bn, bs, bv⟩
      obtain ⟨o, hrun, hho⟩ := hup
      have HHO := Lib.hid hho
      clear hho
      unfold eK eV at hrun
      refine skip_ (w1 := setBlock wd b o) (by rfl) rfl ?_ ?_
      · go_simp
      refine hK.out _ _ ?_
      clear hK K hrun
      refine done_ (by kernel_rfl) ?_
      have TF := Lib.hid (TB.off T8.out (Off.set b wd o) HHO.out (by rw [← HM0.out]; exact HSL.out) (by rw [← HM0.out]; exact HSF.out))
      have OF := Lib.hid ((Off.of_below (b := b) A8.out).trans (Off.set b wd o))
      clear T8 A8 HHO
      generalize setBlock wd b o = wz at TF OF ⊢
      go_wp2
      go_ret
      exact ⟨by rw [HE0.out] <;> rfl, by rw [HM0.out]; exact TF.out, OF.out⟩
  · rw [if_neg hf] at key
    have hE : setE M ⟨bp, bn, bs, bv⟩ = 130 := by unfold setE; rw [if_neg hf]
    have hM0 : setM M ⟨bp, bn, bs, bv⟩ = M := by unfold setM; rw [hE, if_neg (by decide)]
    rw [hE, hM0]
    clear hE hM0 hsl hsf hM hf
    unfold eV at key ⊢
    have KEY := Lib.hid key
    have hal := (Below.refl w.heap.size w).alloc (Nat.le_refl _) (.cells #[.string bp, .string bn, .string bs, .int .i64 bv] 27)
    have hnew := blk_new w (.cells #[.string bp, .string bn, .string bs, .int .i64 bv] 27)
    have hG1 := Glob.below hG hal
    have hT1 := TB.below hT hal
    have AL := Lib.hid hal
    have NW := Lib.hid hnew
    have GL := Lib.hid hG1
    have TL := Lib.hid hT1
    clear key hG1 hal hnew hG hT1 hT
    go_enter Tryd.func20, Tryd.ntmps20
    go_upto_region 1 with fail
    generalize w.alloc _ = w1 at AL NW GL TL ⊢
    have hd0 := (blk_cell NW.out 0).trans rfl
    have hd1 := (blk_cell NW.out 1).trans rfl
    have hd2 := (blk_cell NW.out 2).trans rfl
    have hd3 := (blk_cell NW.out 3).trans rfl
    go_wp2_with (go_at_call 33; refine (KEY.out _ GL.out).mono ?_; rintro e w2 ⟨rfl, hb2⟩; have B2 := Lib.hid hb2; clear hb2)
    go_ret
    exact ⟨rfl, TL.out.below B2.out, Off.of_below (AL.out.trans (below_lower B2.out AL.out.size))⟩
end Go.Proofs.YtphddbijdfmpjaaDoor.Wr
namespace Go.Proofs.YtphddbijdfmpjaaDoor.Wr
open Go.RowKit Go.MapRaw Go.Proofs.YtphddbijdfmpjaaDoorW.PrintWords Go.Proofs.YtphddbijdfmpjaaDoorW.PrintLast Go.Proofs.YtphddbijdfmpjaaDoor.Q
open Go.ChangeMaps (setBlock)
set_option linter.unusedVariables false
set_option linter.unusedSimpArgs false
def dropE (M : Tab) (path name : ByteArray) : Int := if pathS path = 0 then (if (getA (path, name) M).isSome = true then 0 else 191) else 41
def dropM (M : Tab) (path name : ByteArray) : Tab := if dropE M path name = 0 then delA (path, name) M else M
theorem del_mem {k : Key} {x : Key × Bnd} {M : Tab} (h : x ∈ delA k M) : x ∈ M := del_sub k M x h
theorem del_len (k : Key) : ∀ M : Tab, (delA k M).length ≤ M.length
  | [] => Nat.le_refl _
  | p :: r => by
    have := del_len k r
    unfold delA
    split
    · simp
    · simp only [List.length_cons]; omega
theorem dropM_len (M : Tab) (p n : ByteArray) : (dropM M p n).length ≤ M.length := by
  unfold dropM
  split
  · exact del_len _ M
  · exact Nat.le_refl _
theorem path_ok (s : ByteArray) (w : World) (hG : Glob w) : Calls Tryd.prog 19 #[.string s] w fun e w' => e = .returned (.int .i64 (pathS s)) ∧ Below w.heap.size w w' := by
  obtain ⟨k, h⟩ := path_ev s
  exact label_Path.calls k _ _ w (h k (Nat.le_refl _)) hG
set_option maxRecDepth 100000 in
set_option maxHeartbeats 4000000 in
theorem drop_ok (w : World) (t b : Nat) (M : Tab) (dp dn : ByteArray) (hT : TB w t b M) (hG : Glob w) :
    Calls Tryd.prog 21 #[.pointer (some ⟨t, 0, none⟩), .string dp, .string dn] w fun e w' => e = .returned (.int .i64 (dropE M dp dn)) ∧ TB w' t b (dropM M dp dn) ∧ Off b w w' := by
  have hu70 := Tryd.underlying70
  have hu27 := Tryd.underlying27
  have key := path_ok dp w hG
  rcases line_cases dp with ⟨hp, _⟩ | ⟨hp, _⟩
  · rw [hp] at key
    have hE : dropE M dp dn = if (getA (dp, dn) M).isSome = true then 0 else 191 := by unfold dropE; rw [if_pos hp]
    have hlk := fun w' (h : Holds eK eV w' b M) => h.lookup kind_pl (fun a => ⟨a, rfl⟩) eqPl_iff 66 27 Tryd.underlying66 (dp, dn) _ (Tryd.zeroValue27 w') true
    obtain ⟨c, hc⟩ : ∃ c : Bnd, ∀ w', Holds eK eV w' b M → (Instr.lookup 66 (.map (some b)) (.agg #[.string dp, .string dn]) true).run Tryd.prog w' = .ok (.tuple #[.agg #[.string c.path, .string c.name, .string c.subject, .int .i64 c.verb], .bool (getA (dp, dn) M).isSome]) w' := by
      refine ⟨(getA (dp, dn) M).getD ⟨⟨#[]⟩, ⟨#[]⟩, ⟨#[]⟩, 0⟩, fun w' h => (hlk w' h).trans ?_⟩
      cases getA (dp, dn) M <;> rfl
    obtain ⟨there, hth⟩ : ∃ x, x = (getA (dp, dn) M).isSome := ⟨_, rfl⟩
    rw [← hth] at hc hE
    have HC := Lib.hid hc
    have HE := Lib.hid hE
    have KEY := Lib.hid key
    have TL := Lib.hid hT
    clear hlk hc hth hE key hG hT hp
    obtain ⟨cp, cn, cs, cv⟩ := c
    go_enter Tryd.func21, Tryd.ntmps21
    go_upto_region 3 with (go_at_call 19; refine KEY.out.mono ?_; rintro e w2 ⟨rfl, hb2⟩; have B2 := Lib.hid hb2; have T2 := Lib.hid (TL.out.below hb2); clear hb2)
    have hc0 := T2.out.cell
    have hrun := HC.out _ T2.out.holds
    go_upto_region 4 with fail
    have hbq := (Below.refl w2.heap.size w2).alloc (Nat.le_refl _) (.cells #[.string cp, .string cn, .string cs, .int .i64 cv] 27)
    have B3 := Lib.hid (B2.out.trans (below_lower hbq B2.out.size))
    have T3 := Lib.hid (T2.out.below hbq)
    clear hbq T2 B2 TL hc0 hrun
    generalize w2.alloc _ = w3 at T3 B3 ⊢
    have hc0 := T3.out.cell
    cases there
    · go_wp2
      go_ret
      have e2 : dropM M dp dn = M := by unfold dropM; rw [HE.out, if_neg (by decide)]
      exact ⟨by rw [HE.out] <;> rfl, by rw [e2]; exact T3.out, Off.of_below B3.out⟩
    · have hdel := T3.out.holds.delete (P := Tryd.prog) kind_pl (fun a => ⟨a, rfl⟩) eqPl_iff 66 27 0 70 Tryd.underlying66 (dp, dn)
      obtain ⟨o, hrun, hho⟩ := hdel
      have HHO := Lib.hid hho
      clear hho
      unfold eK at hrun
      go_wp2
      go_ret
      have e2 : dropM M dp dn = delA (dp, dn) M := by unfold dropM; rw [HE.out, if_pos (by decide)]
      exact ⟨by rw [HE.out] <;> rfl, by rw [e2]; exact TB.off T3.out (Off.set b w3 o) HHO.out (nodup_del _ M T3.out.nodup) (fun p hp => T3.out.fits p (del_mem hp)), (Off.of_below B3.out).trans (Off.set b w3 o)⟩
  · rw [hp] at key
    have hE : dropE M dp dn = 41 := by unfold dropE; rw [hp, if_neg (by decide)]
    have hM0 : dropM M dp dn = M := by unfold dropM; rw [hE, if_neg (by decide)]
    rw [hE, hM0]
    have KEY := Lib.hid key
    have TL := Lib.hid hT
    clear hE hM0 hp key hG hT
    go_enter Tryd.func21, Tryd.ntmps21
    go_wp2_with (go_at_call 19; refine KEY.out.mono ?_; rintro e w2 ⟨rfl, hb2⟩; have B2 := Lib.hid hb2; have T2 := Lib.hid (TL.out.below hb2); clear hb2)
    go_ret
    exact ⟨rfl, T2.out, Off.of_below B2.out⟩
end Go.Proofs.YtphddbijdfmpjaaDoor.Wr
namespace Go.Proofs.YtphddbijdfmpjaaDoor.Wr
open Go.RowKit Go.MapRaw Go.Proofs.YtphddbijdfmpjaaDoorW.PrintWords Go.Proofs.YtphddbijdfmpjaaDoorW.PrintLast Go.Proofs.YtphddbijdfmpjaaDoor.Q
open Go.ChangeMaps (setBlock)
set_option linter.unusedVariables false
set_option linter.unusedSimpArgs false
theorem Off.set_high {b : Nat} {u w : World} (h : Off b u w) {r : Nat} (hr : u.heap.size ≤ r) (o : Obj) : Off b u (setBlock w r o) :=
  ⟨h.os, h.tape, h.output, by rw [set_size]; exact h.size, fun k hk hn => by rw [set_far _ _ _ _ (by omega)]; exact h.block k hk hn⟩
theorem Off.drew {b : Nat} {u w : World} (h : Off b u w) : Off b u w.drew := ⟨h.os, h.tape, h.output, h.size, h.block⟩
theorem Off.alloc {b : Nat} {u w : World} (h : Off b u w) (o : Obj) : Off b u (w.alloc o) := h.trans (Off.of_below ((Below.refl _ _).alloc (Nat.le_refl _) o))
instance memKey (k : Key) (l : List Key) : Decidable (k ∈ l) := decidable_of_iff (l.any (fun y => decide (y = k)) = true) (by simp)
def keepM (path : ByteArray) (L M : Tab) : Tab := M.filter fun x => decide (x.1.1 ≠ path ∨ x.1 ∈ List.map (fun y : Key × Bnd => y.1) L)
def leaveM (path : ByteArray) (M : Tab) : Tab := M.filter fun x => decide (x.1.1 ≠ path)
theorem keep_all (path : ByteArray) (M : Tab) : keepM path M M = M := by
  unfold keepM
  rw [List.filter_eq_self]
  intro x hx
  rw [decide_eq_true_eq]
  exact .inr (List.mem_map_of_mem (f := fun y : Key × Bnd => y.1) hx)
theorem keep_nil (path : ByteArray) (M : Tab) : keepM path [] M = leaveM path M := by
  unfold keepM leaveM
  apply List.filter_congr
  intro x _
  simp
theorem del_filter (k : Key) : ∀ M : Tab, (M.map (·.1)).Nodup → delA k M = M.filter fun x => decide (x.1 ≠ k)
  | [], _ => rfl
  | p :: r, h => by
    rw [List.map_cons, List.nodup_cons] at h
    unfold delA
    by_cases e : p.1 = k
    · rw [if_pos e, List.filter_cons, if_neg (by simp [e])]
      refine (List.filter_eq_self.2 fun x hx => ?_).symm
      rw [decide_eq_true_eq]
      intro e2
      refine h.1 ?_
      rw [e, ← e2]
      exact List.mem_map_of_mem (f := fun y : Key × Bnd => y.1) hx
    · rw [if_neg e, List.filter_cons, if_pos (by simpa using e), del_filter k r h.2]
theorem keep_far {path : ByteArray} {M A B : Tab} {p : Key × Bnd} (h : p.1.1 ≠ path) : keepM path (A ++ p :: B) M = keepM path (A ++ B) M := by
  unfold keepM
  apply List.filter_congr
  intro x _
  rw [decide_eq_decide]
  simp only [List.map_append, List.map_cons, List.mem_append, List.mem_cons]
  constructor
  · rintro (e | e | e | e)
    · exact .inl e
    · exact .inr (.inl e)
    · exact .inl (by rw [e]; exact h)
    · exact .inr (.inr e)
  · rintro (e | e | e)
    · exact .inl e
    · exact .inr (.inl e)
    · exact .inr (.inr (.inr e))
theorem keep_hit {path : ByteArray} {M A B : Tab} {p : Key × Bnd} (hM : (M.map (·.1)).Nodup) (h : p.1.1 = path) (hn : p.1 ∉ (A ++ B).map (·.1)) : delA p.1 (keepM path (A ++ p :: B) M) = keepM path (A ++ B) M := by
  have hs : ((keepM path (A ++ p :: B) M).map (·.1)).Nodup := ((List.filter_sublist (l := M)).map _).nodup hM
  rw [del_filter _ _ hs]
  unfold keepM
  rw [List.filter_filter]
  apply List.filter_congr
  intro x _
  rw [Bool.eq_iff_iff, Bool.and_eq_true]
  simp only [decide_eq_true_eq]
  constructor
  · rintro ⟨h1, h2 | h2⟩
    · exact .inl h2
    · rw [List.map_append, List.map_cons, List.mem_append, List.mem_cons] at h2
      rw [List.map_append, List.mem_append]
      exact .inr (h2.elim .inl fun h2 => h2.elim (fun e => absurd e h1) .inr)
  · intro h1
    refine ⟨fun e => ?_, ?_⟩
    · rcases h1 with h1 | h1
      · exact h1 (by rw [e]; exact h)
      · rw [e] at h1; exact hn h1
    · rcases h1 with h1 | h1
      · exact .inl h1
      · rw [List.map_append, List.mem_append] at h1
        rw [List.map_append, List.map_cons, List.mem_append, List.mem_cons]
        exact .inr (h1.elim .inl fun h1 => .inr (.inr h1))
theorem nodup_out {A B : Tab} {p : Key × Bnd} (h : ((A ++ p :: B).map (·.1)).Nodup) : p.1 ∉ (A ++ B).map (·.1) ∧ ((A ++ B).map (·.1)).Nodup := by
  rw [List.map_append, List.map_cons] at h
  have h2 := (List.perm_middle (l₁ := A.map (·.1)) (l₂ := B.map (·.1)) (a := p.1)).nodup_iff.1 h
  rw [List.nodup_cons] at h2
  rw [List.map_append]
  exact h2
theorem leave_sub {path : ByteArray} {M : Tab} {x : Key × Bnd} (h : x ∈ leaveM path M) : x ∈ M := (List.mem_filter.1 h).1
theorem leaveM_len (path : ByteArray) (M : Tab) : (leaveM path M).length ≤ M.length := List.length_filter_le _ _
set_option maxRecDepth 100000 in
set_option maxHeartbeats 4000000 in
theorem leave_ok (w : World) (t b : Nat) (M : Tab) (path : ByteArray) (hT : TB w t b M) (hM : M.length ≤ 2513169434843) :
    Calls Tryd.prog 22 #[.pointer (some ⟨t, 0, none⟩), .string path] w fun e w' => e = .returned (.int .i64 (cnt path M : Nat)) ∧ TB w' t b (leaveM path M) ∧ Off b w w' := by
  have hu70 := Tryd.underlying70
  obtain ⟨o, hr, hR⟩ := hT.holds.range (P := Tryd.prog) (T := 66) (eT := 27) (kT := 70) Tryd.underlying66
  have HR := Lib.hid hR
  have HM := Lib.hid hM
  have HT := Lib.hid hT
  have ht := hT.cell
  clear hT hR hM
  go_enter Tryd.func22, Tryd.ntmps22
  go_upto_region 3 with fail
  have hb1 : Off b w (w.alloc o) := (Off.refl b w).alloc o
  have HB1 := Lib.hid hb1
  have HRA := Aside0.mk HR.out
  clear hb1 hr
  generalize w.alloc o = w1 at HB1 HRA ⊢
  obtain ⟨r, hrr⟩ : ∃ r, r = w.heap.size := ⟨_, rfl⟩
  have HRR := Lib.hid hrr
  rw [← hrr] at HRA ⊢
  clear hrr ht HR
  go_loopg [5] M.length (fun g v5 wr => ∃ (n : Nat) (L : Tab), v5 = .int .i64 (n : Int) ∧ L.length ≤ g ∧ Aside0 (n + cnt path L = cnt path M) ∧ Aside0 (n ≤ M.length ∧ n + L.length ≤ M.length) ∧ Aside0 ((L.map (·.1)).Nodup) ∧ Aside0 (Ranging eK eV wr b r (keepM path L M) L) ∧ Aside0 (Off b w wr))
  case atStart => exact ⟨0, M, rfl, Nat.le_refl _, ⟨Nat.zero_add _⟩, ⟨by omega⟩, ⟨HT.out.nodup⟩, ⟨by rw [keep_all]; exact HRA.out⟩, ⟨HB1.out⟩⟩
  case round =>
    obtain ⟨n, L, rfl, hg, HC, HN, HND, HRg, HBw⟩ := hrel
    rcases HRg.out.next (P := Tryd.prog) 0 with ⟨hL, hrun⟩ | ⟨A, p, B, hL, wd, o2, hwd, hrun, hat⟩
    · subst hL
      go_wp2
      go_ret
      exact ⟨by have := HC.out; simp only [cnt, Nat.add_zero] at this; (rw [this] <;> rfl), TB.off HT.out HBw.out (by rw [← keep_nil]; exact HRg.out.holds) (((List.filter_sublist (l := M)).map _).nodup HT.out.nodup) (fun p hp => HT.out.fits p (leave_sub hp)), HBw.out⟩
    · subst hL
      cases gk with
      | zero => simp at hg
      | succ g =>
        have hent := hat.entry (P := Tryd.prog)
        have hbs : Off b w (setBlock wd r o2) := Off.set_high (by rcases hwd with rfl | rfl; exact HBw.out; exact HBw.out.drew) (by have := HRR.out; omega) o2
        have HBS := Lib.hid hbs
        have HAT := Lib.hid hat
        clear hbs hat hwd
        unfold eK eV at hrun hent
        generalize setBlock wd r o2 = w2 at HBS HAT hrun hent
        obtain ⟨⟨kp, kn⟩, bv⟩ := p
        have hnd := nodup_out HND.out
        have HN1 := Lib.hid hnd.1
        have HN2 := Lib.hid hnd.2
        clear hnd
        by_cases hp : kp = path
        · subst hp
          go_upto_region 6 with fail
          have hT3 : TB (w2.alloc (.cells #[.string kp, .string kn] 70)) t b (keepM kp (A ++ ((kp, kn), bv) :: B) M) := TB.off HT.out (HBS.out.alloc _) (Holds_alloc HAT.out.on.holds _) (((List.filter_sublist (l := M)).map _).nodup HT.out.nodup) (fun p hp => HT.out.fits p (List.mem_filter.1 hp).1)
          have hK3 := blk_new w2 (.cells #[.string kp, .string kn] 70)
          have hA3 := HAT.out.move (heap_alloc_old w2 (.cells #[.string kp, .string kn] 70) (Ranging_lt HAT.out.on).1) (heap_alloc_old w2 (.cells #[.string kp, .string kn] 70) (Ranging_lt HAT.out.on).2)
          have hO3 := HBS.out.alloc (.cells #[.string kp, .string kn] 70)
          have T3 := Lib.hid hT3
          have K3 := Lib.hid hK3
          have A3 := Lib.hid hA3
          have O3 := Lib.hid hO3
          clear hT3 hK3 hA3 hO3 HBS HAT hrun hent
          obtain ⟨kk, hkk⟩ : ∃ kk, kk = w2.heap.size := ⟨_, rfl⟩
          rw [← hkk] at K3 ⊢
          clear hkk
          generalize w2.alloc _ = w3 at T3 K3 A3 O3 ⊢
          refine start_ (n := 6) (S := fun w' => w'.cell? ⟨t, 0, none⟩ = some (.map (some b)) ∧ w'.cell? ⟨kk, 0, none⟩ = some (.string kp) ∧ w'.cell? ⟨kk, 1, none⟩ = some (.string kn)) (ds := [5]) (bl 0 6) (by kernel_rfl) rfl rfl ⟨T3.out.cell, (blk_cell K3.out 0).trans rfl, (blk_cell K3.out 1).trans rfl⟩ (fun hHeld => ?_)
          have A4 := Lib.hid (A3.out.move (w' := w3.drew) rfl rfl)
          have O4 := Lib.hid O3.out.drew
          clear A3 O3 T3 K3
          generalize w3.drew = w4 at A4 O4 hHeld ⊢
          refine pure_ (i := 0) (N := some 20) (v := ?_) (a' := ?_) (bl 1 5) rfl rfl (by kernel_rfl) (fun _ _ _ h => h) (Or.inl ⟨by rfl, ?_⟩) ?_ ?_
          rotate_left
          · intro w'
            go_simp
            with_reducible rfl
          rotate_left
          · simp only [Act.put, List.setIfInBounds_toArray, List.set_cons_zero, List.set_cons_succ, i64_w, i32_w]
            rfl
          refine pure_ (i := 1) (N := some 21) (v := ?_) (a' := ?_) (bl 2 4) rfl rfl (by kernel_rfl) (fun _ _ _ h => h) (Or.inl ⟨by rfl, ?_⟩) ?_ ?_
          rotate_left
          · intro w'
            go_simp
            with_reducible rfl
          rotate_left
          · simp only [Act.put, List.setIfInBounds_toArray, List.set_cons_zero, List.set_cons_succ, i64_w, i32_w]
            rfl
          refine pure_ (i := 2) (N := some 22) (v := ?_) (a' := ?_) (bl 3 3) rfl rfl (by kernel_rfl) (fun _ _ _ h => h) (Or.inl ⟨by rfl, ?_⟩) ?_ ?_
          rotate_left
          · intro w'
            go_simp
            with_reducible rfl
          rotate_left
          · simp only [Act.put, List.setIfInBounds_toArray, List.set_cons_zero, List.set_cons_succ, i64_w, i32_w]
            rfl
          refine take_ (i := 3) (N := some 23) (v := ?_) (a' := ?_) (bl 4 2) rfl rfl (by kernel_rfl) (fun _ _ _ h => h) (Or.inl ⟨by rfl, ?_⟩) hHeld ?_ ?_
          rotate_left
          · rintro w' ⟨s0, s1, s2⟩
            go_simp
            with_reducible rfl
          rotate_left
          · simp only [Act.put, List.setIfInBounds_toArray, List.set_cons_zero, List.set_cons_succ, i64_w, i32_w]
            rfl
          refine take_ (i := 4) (N := some 24) (v := ?_) (a' := ?_) (bl 5 1) rfl rfl (by kernel_rfl) (fun _ _ _ h => h) (Or.inl ⟨by rfl, ?_⟩) hHeld ?_ ?_
          rotate_left
          · rintro w' ⟨s0, s1, s2⟩
            go_simp
            with_reducible rfl
          rotate_left
          · simp only [Act.put, List.setIfInBounds_toArray, List.set_cons_zero, List.set_cons_succ, i64_w, i32_w]
            rfl
          refine last_ (i := 5) (N := none) (bl 6 0) rfl rfl (by kernel_rfl) (by decide) (fun K hK => ?_)
          obtain ⟨o5, hrun, hR5⟩ := A4.out.delete (P := Tryd.prog) kind_pl (fun a => ⟨a, rfl⟩) eqPl_iff 66 27 0 70 Tryd.underlying66 HN1.out
          rw [keep_hit HT.out.nodup rfl HN1.out] at hR5
          have HR5 := Lib.hid hR5
          clear hR5
          unfold eK at hrun
          refine value_ (v := .tuple #[]) (w1 := setBlock w4 b o5) (by rfl) rfl ?_ ?_
          · go_simp
          refine hK.out _ _ ?_
          clear hK K hrun
          refine norm_ (a' := ?_) ?_ ?_
          rotate_left
          · show Act.put _ none _ = _
            rfl
          refine done_ (by kernel_rfl) ?_
          have O5 := Lib.hid (O4.out.trans (Off.set b w4 o5))
          clear O4 A4
          generalize setBlock w4 b o5 = w5 at HR5 O5 ⊢
          go_wp2
          go_roundg g
          case measure => omega
          case rel => exact ⟨n + 1, A ++ B, by (have h1 := HN.out.1; have h2 := HM.out; rw [w64 n (by omega)]), by simp at hg ⊢; omega, ⟨by have := HC.out; rw [cnt_app] at this ⊢; simp only [cnt, if_pos] at this; omega⟩, ⟨by have := HN.out; simp at this ⊢; omega⟩, ⟨HN2.out⟩, ⟨HR5.out⟩, ⟨O5.out⟩⟩
        · have hpe : (kp.toList == path.toList) = false := by
            rw [toList_beq, Bool.eq_false_iff, Ne, ba_beq]; exact hp
          go_wp2
          go_roundg g
          case measure => omega
          case rel => exact ⟨n, A ++ B, rfl, by simp at hg ⊢; omega, ⟨by have := HC.out; rw [cnt_app] at this ⊢; simp only [cnt, if_neg hp] at this; omega⟩, ⟨by have := HN.out; simp at this ⊢; omega⟩, ⟨HN2.out⟩, ⟨by rw [← keep_far (p := ((kp, kn), bv)) hp]; exact Ranging_alloc HAT.out.on _⟩, ⟨HBS.out.alloc _⟩⟩
end Go.Proofs.YtphddbijdfmpjaaDoor.Wr
namespace Go.Proofs.YtphddbijdfmpjaaDoor.Q
open Go.RowKit Go.Proofs.YtphddbijdfmpjaaDoorW.PrintWords Go.Proofs.YtphddbijdfmpjaaDoorW.PrintLast Go.Proofs.YtphddbijdfmpjaaDoorW.PrintMore
attribute [local go_sem] max2_int min2_int max_two min_two max_three min_three max_four min_four   -- for this text's walks alone
set_option linter.unusedVariables false
set_option linter.unusedSimpArgs false
def access_isVerb.f (a0 : Int) : Option (Bool) := if a0 ≥ 0 then (some (decide (a0 ≤ 3))) else (some false)
set_option maxHeartbeats 8000000 in
set_option maxRecDepth 100000 in
theorem access_isVerb.calls (a0 : Int) (r : Bool) (w : World) (h : access_isVerb.f a0 = some r) :
    Calls Tryd.prog 31 #[.int .i64 a0] w fun e w' => e = .returned (.bool r) ∧ Drawn0 w w' := by
  have H : (if a0 ≥ 0 then (some (decide (a0 ≤ 3))) else (some false)) = some r := h
  clear h
  by_cases c2 : a0 ≥ 0
  · rw [if_pos c2] at H
    have c2b0 : decide (0 ≤ a0) = true := decide_eq_true c2
    clear c2
    obtain rfl := Option.some.inj H
    go_enter Tryd.func31, Tryd.ntmps31
    go_wp2
    go_ret
    exact ⟨by first | rfl | (simp; done) | (simp [*]; done), by repeat (first | exact Drawn0.refl _ | apply Drawn0.step)⟩
  · rw [if_neg c2] at H
    have c2b0 : decide (0 ≤ a0) = false := decide_eq_false c2
    clear c2
    obtain rfl := Option.some.inj H
    go_enter Tryd.func31, Tryd.ntmps31
    go_wp2
    go_ret
    exact ⟨by first | rfl | (simp; done) | (simp [*]; done), by repeat (first | exact Drawn0.refl _ | apply Drawn0.step)⟩
end Go.Proofs.YtphddbijdfmpjaaDoor.Q
namespace Go.Proofs.YtphddbijdfmpjaaDoor.Wr
open Go.RowKit Go.MapRaw Go.Proofs.YtphddbijdfmpjaaDoorW.PrintWords Go.Proofs.YtphddbijdfmpjaaDoorW.PrintLast Go.Proofs.YtphddbijdfmpjaaDoor.Q
open Go.ChangeMaps (setBlock)
set_option linter.unusedVariables false
set_option linter.unusedSimpArgs false
def zb : Bnd := ⟨⟨#[]⟩, ⟨#[]⟩, ⟨#[]⟩, 0⟩
def BestAt (M : Tab) (s : ByteArray) (v : Int) (q : ByteArray) (c : Bnd) : Prop := (∃ x ∈ M, x.2 = c ∧ Mat s v q x) ∧ ∀ x ∈ M, Mat s v q x → Op.bytesLess x.2.name.toList c.name.toList = false
def WhyIs (M : Tab) (s : ByteArray) (v : Int) (p : ByteArray) (c : Bnd) (fd : Bool) : Prop :=
  (fd = false ∧ c = zb ∧ whyB M s v p = false) ∨ (fd = true ∧ isV v = true ∧ ∃ A q B, (lineS p).1 = A ++ q :: B ∧ (∀ a ∈ A, hasAt M s v a = false) ∧ BestAt M s v q c)
theorem WhyIs.found {M : Tab} {s : ByteArray} {v : Int} {p : ByteArray} {c : Bnd} {fd : Bool} (h : WhyIs M s v p c fd) : fd = whyB M s v p := by
  rcases h with ⟨rfl, _, h⟩ | ⟨rfl, hv, A, q, B, hl, _, ⟨x, hx, _, hm⟩, _⟩
  · exact h.symm
  · refine ((whyB_iff M s v p).2 ⟨(isV_iff v).1 hv, q, ?_, x, hx, hm⟩).symm
    rw [hl]; simp
structure Best (M L : Tab) (s : ByteArray) (v : Int) (q : ByteArray) (c : Bnd) (fd : Bool) : Prop where
  seen : ∀ x ∈ M, Mat s v q x → x ∈ L ∨ (fd = true ∧ Op.bytesLess x.2.name.toList c.name.toList = false)
  is : fd = true → ∃ x ∈ M, x.2 = c ∧ Mat s v q x
  not : fd = false → c = zb
theorem Best.start (M : Tab) (s : ByteArray) (v : Int) (q : ByteArray) : Best M M s v q zb false :=
  ⟨fun x hx _ => .inl hx, fun h => (by cases h), fun _ => rfl⟩
theorem Best.skip {M A B : Tab} {x : Key × Bnd} {s : ByteArray} {v : Int} {q : ByteArray} {c : Bnd} {fd : Bool} (h : Best M (A ++ x :: B) s v q c fd) (hx : Mat s v q x → fd = true ∧ Op.bytesLess x.2.name.toList c.name.toList = false) : Best M (A ++ B) s v q c fd :=
  ⟨fun y hy hm => (by
    rcases h.seen y hy hm with hl | hl
    · rcases List.mem_append.1 hl with hl | hl
      · exact .inl (List.mem_append.2 (.inl hl))
      · rcases List.mem_cons.1 hl with rfl | hl
        · exact .inr (hx hm)
        · exact .inl (List.mem_append.2 (.inr hl))
    · exact .inr hl), h.is, h.not⟩
theorem Best.take {M A B : Tab} {x : Key × Bnd} {s : ByteArray} {v : Int} {q : ByteArray} {c : Bnd} {fd : Bool} (h : Best M (A ++ x :: B) s v q c fd) (hxM : x ∈ M) (hm : Mat s v q x) (hx : fd = true → Op.bytesLess x.2.name.toList c.name.toList = true) : Best M (A ++ B) s v q x.2 true :=
  ⟨fun y hy hmy => (by
    rcases h.seen y hy hmy with hl | ⟨hf, hl⟩
    · rcases List.mem_append.1 hl with hl | hl
      · exact .inl (List.mem_append.2 (.inl hl))
      · rcases List.mem_cons.1 hl with rfl | hl
        · exact .inr ⟨rfl, less_irrefl _⟩
        · exact .inl (List.mem_append.2 (.inr hl))
    · refine .inr ⟨rfl, ?_⟩
      cases hb : Op.bytesLess y.2.name.toList x.2.name.toList with
      | false => rfl
      | true => rw [less_trans _ _ _ hb (hx hf)] at hl; cases hl), fun _ => ⟨x, hxM, rfl, hm⟩, fun h => (by cases h)⟩
theorem Best.found {M : Tab} {s : ByteArray} {v : Int} {q : ByteArray} {c : Bnd} (h : Best M [] s v q c true) : BestAt M s v q c :=
  ⟨h.is rfl, fun x hx hm => ((h.seen x hx hm).resolve_left (by simp)).2⟩
theorem Best.none {M : Tab} {s : ByteArray} {v : Int} {q : ByteArray} {c : Bnd} (h : Best M [] s v q c false) : hasAt M s v q = false := by
  rw [Bool.eq_false_iff]
  intro hh
  obtain ⟨x, hx, hm⟩ := (hasAt_iff M s v q).1 hh
  rcases h.seen x hx hm with hl | ⟨hl, _⟩
  · cases hl
  · cases hl
theorem Ranging_mem {w : World} {b r : Nat} {M L : Tab} (h : Ranging eK eV w b r M L) : ∀ x ∈ L, ∃ y ∈ M, eK x.1 = eK y.1 ∧ eV x.2 = eV y.2 := by
  obtain ⟨es, c, s, seen, c0, h1, h2, h3, h4, h5, h6, h7⟩ := h
  intro x hx
  have hm : (eK x.1, eV x.2) ∈ L.map (fun p => (eK p.1, eV p.2)) := List.mem_map.2 ⟨x, hx, rfl⟩
  rw [← h7] at hm
  obtain ⟨e, he, hk⟩ := List.mem_map.1 hm
  have : kv e ∈ M.map (fun p => (eK p.1, eV p.2)) := by
    rw [← h2.list]; exact List.mem_map.2 ⟨e, (List.mem_filter.1 he).1, rfl⟩
  obtain ⟨y, hy, hyk⟩ := List.mem_map.1 this
  rw [hk] at hyk
  exact ⟨y, hy, (congrArg Prod.fst hyk).symm, (congrArg Prod.snd hyk).symm⟩
theorem eK_inj {p q : Key} (h : eK p = eK q) : p = q := (eqPl_iff p q).1 (by rw [← h]; exact (eqPl_iff p p).2 rfl)
theorem eV_inj {b c : Bnd} (h : eV b = eV c) : b = c := by
  obtain ⟨b1, b2, b3, b4⟩ := b
  obtain ⟨c1, c2, c3, c4⟩ := c
  unfold eV at h
  simp only [Value.agg.injEq, Array.mk.injEq, List.cons.injEq, Value.string.injEq, Value.int.injEq, and_true, true_and] at h
  obtain ⟨h1, h2, h3, h4⟩ := h
  rw [h1, h2, h3, h4]
theorem Ranging_in {w : World} {b r : Nat} {M L : Tab} (h : Ranging eK eV w b r M L) {x : Key × Bnd} (hx : x ∈ L) : x ∈ M := by
  obtain ⟨y, hy, h1, h2⟩ := Ranging_mem h x hx
  rw [show x = y from Prod.ext (eK_inj h1) (eV_inj h2)]
  exact hy
theorem results_cell_row_tmp {P : Program} {fn : Func} {p u : Tmp} {ty : TypeId} (h : fn.results = #[.cell p ty, .tmp u]) (tmps : Array Value) (w : World) (g : Nat) (t : TypeId) (cs : Array Value) (fr : Nat × Nat) (d : TypeDesc)
    (hp : tmps.getD p undef = .pointer (some ⟨g, 0, none⟩)) (hg : w.heap[g]? = some (.cells cs t fr))
    (hu : P.underlying ty = some d) (hd : (match d with | .struct _ | .array _ _ => true | _ => false) = true) (hi : (P.info? ty).map (·.size) = some cs.size) :
    (results fn tmps).run P w = .ok (.tuple #[.agg cs, tmps.getD u undef]) w := by
  have hp' : tmps[p]?.getD undef = .pointer (some ⟨g, 0, none⟩) := by simpa using hp
  simp [results, h, hp', asAddr, run_loadVar_row w g t ty cs fr d hg hu hd hi, Sem.run_bind]
theorem line_ok (s : ByteArray) (w : World) (hG : Glob w) : Calls Tryd.prog 12 #[.string s] w fun e w' => ∃ v0_ : Value, e = .returned (.tuple #[v0_, .int .i64 (lineS s).2]) ∧ Kd.R Kd.string 9 w' w.heap.size (fun _ => True) v0_ (lineS s).1 ∧ Below w.heap.size w w' := by
  obtain ⟨k, h⟩ := line_ev s
  exact label_Line.calls k _ _ _ w (h k (Nat.le_refl _)) hG
theorem verb_ok (v : Int) (w : World) : Calls Tryd.prog 31 #[.int .i64 v] w fun e w' => e = .returned (.bool (isV v)) ∧ Below w.heap.size w w' := by
  refine (access_isVerb.calls v (isV v) w ?_).mono (fun e w' h => ⟨h.1, h.2.below⟩)
  unfold access_isVerb.f isV
  by_cases h : v ≥ 0
  · rw [if_pos h, decide_eq_true h, Bool.true_and]
  · rw [if_neg h, decide_eq_false h, Bool.false_and]
end Go.Proofs.YtphddbijdfmpjaaDoor.Wr
namespace Go.Proofs.YtphddbijdfmpjaaDoor.Wr
open Go.RowKit Go.MapRaw Go.Proofs.YtphddbijdfmpjaaDoorW.PrintWords Go.Proofs.YtphddbijdfmpjaaDoorW.PrintLast Go.Proofs.YtphddbijdfmpjaaDoor.Q
open Go.ChangeMaps (setBlock)
set_option linter.unusedVariables false
set_option linter.unusedSimpArgs false
theorem blk_put4 {w : World} {g : Nat} {a0 a1 a2 a3 b0 b1 b2 b3 : Value} (h : w.heap[g]? = some (.cells #[a0, a1, a2, a3] 27 (0, 0))) :
    ((((w.setCell ⟨g, 0, none⟩ b0).setCell ⟨g, 1, none⟩ b1).setCell ⟨g, 2, none⟩ b2).setCell ⟨g, 3, none⟩ b3).heap[g]? = some (.cells #[b0, b1, b2, b3] 27 (0, 0)) :=
  blk_put (blk_put (blk_put (blk_put h 0 b0 rfl) 1 b1 rfl) 2 b2 rfl) 3 b3 rfl
theorem below_put4 {B : Nat} {u w : World} {g : Nat} {b0 b1 b2 b3 : Value} (h : Below B u w) (hg : B ≤ g) :
    Below B u ((((w.setCell ⟨g, 0, none⟩ b0).setCell ⟨g, 1, none⟩ b1).setCell ⟨g, 2, none⟩ b2).setCell ⟨g, 3, none⟩ b3) :=
  (((h.setCell (p := ⟨g, 0, none⟩) hg b0).setCell (p := ⟨g, 1, none⟩) hg b1).setCell (p := ⟨g, 2, none⟩) hg b2).setCell (p := ⟨g, 3, none⟩) hg b3
theorem heap_put4 {w : World} {g k : Nat} {b0 b1 b2 b3 : Value} (hk : k ≠ g) :
    ((((w.setCell ⟨g, 0, none⟩ b0).setCell ⟨g, 1, none⟩ b1).setCell ⟨g, 2, none⟩ b2).setCell ⟨g, 3, none⟩ b3).heap[k]? = w.heap[k]? := by
  rw [Below.heap_setCell _ _ _ _ hk, Below.heap_setCell _ _ _ _ hk, Below.heap_setCell _ _ _ _ hk, Below.heap_setCell _ _ _ _ hk]
set_option maxRecDepth 100000 in
set_option maxHeartbeats 8000000 in
theorem why_ok (w : World) (t b : Nat) (M : Tab) (s : ByteArray) (v : Int) (p : ByteArray) (hT : TB w t b M) (hG : Glob w) :
    Calls Tryd.prog 32 #[.pointer (some ⟨t, 0, none⟩), .string s, .int .i64 v, .string p] w fun e w' => (∃ c fd, e = .returned (.tuple #[eV c, .bool fd]) ∧ WhyIs M s v p c fd) ∧ Below w.heap.size w w' := by
  have hu27 := Tryd.underlying27
  have hu70 := Tryd.underlying70
  have key := verb_ok v
  have hal := (Below.refl w.heap.size w).alloc (Nat.le_refl _) (.cells #[.string ⟨#[]⟩, .string ⟨#[]⟩, .string ⟨#[]⟩, .int .i64 0] 27)
  have hnew := blk_new w (.cells #[.string ⟨#[]⟩, .string ⟨#[]⟩, .string ⟨#[]⟩, .int .i64 0] 27)
  have hG1 := Glob.below hG hal
  have hT1 := TB.below hT hal
  have AL := Lib.hid hal
  have NW := Lib.hid hnew
  have GL := Lib.hid hG1
  have TL := Lib.hid hT1
  clear hal hnew hG1 hT1 hT hG
  cases hv : isV v with
  | false =>
    have HV := Lib.hid hv
    rw [hv] at key
    have KEY := Lib.hid key
    clear key hv
    go_enter Tryd.func32, Tryd.ntmps32
    go_upto_region 1 with fail
    generalize w.alloc _ = w1 at AL NW GL TL ⊢
    go_upto_region 2 with (go_at_call 31; refine (KEY.out _).mono ?_; rintro e w2 ⟨rfl, hb2⟩; have B2 := Lib.hid (AL.out.trans (below_lower hb2 AL.out.size)); have N2 := Lib.hid (blk_below NW.out hb2); clear hb2)
    have hc0 := (blk_cell N2.out 0).trans rfl
    have hc1 := (blk_cell N2.out 1).trans rfl
    have hc2 := (blk_cell N2.out 2).trans rfl
    have hc3 := (blk_cell N2.out 3).trans rfl
    have hf0 := blk_frozen N2.out 0
    have hf1 := blk_frozen N2.out 1
    have hf2 := blk_frozen N2.out 2
    have hf3 := blk_frozen N2.out 3
    go_wp2
    have Z3 := Lib.hid (blk_put4 (b0 := .string ⟨#[]⟩) (b1 := .string ⟨#[]⟩) (b2 := .string ⟨#[]⟩) (b3 := .int .i64 0) N2.out)
    have B3 := Lib.hid (below_put4 (b0 := .string ⟨#[]⟩) (b1 := .string ⟨#[]⟩) (b2 := .string ⟨#[]⟩) (b3 := .int .i64 0) B2.out (Nat.le_refl _))
    clear hc0 hc1 hc2 hc3 hf0 hf1 hf2 hf3
    generalize World.setCell _ _ _ = w3 at Z3 B3 ⊢
    (try simp only [Exit.inBlock, Exit.then])
    refine bodyPost_ret (results_cell_row_tmp rfl _ _ w.heap.size 27 _ (0, 0) _ rfl Z3.out hu27 rfl (by kernel_rfl)) rfl ?_
    exact ⟨⟨zb, false, rfl, .inl ⟨rfl, rfl, by unfold whyB; rw [HV.out, Bool.false_and]⟩⟩, B3.out⟩
  | true =>
    have HV := Lib.hid hv
    rw [hv] at key
    have KEY := Lib.hid key
    have LN := Lib.hid (line_ok p)
    clear key hv
    go_enter Tryd.func32, Tryd.ntmps32
    go_upto_region 1 with fail
    generalize w.alloc _ = w1 at AL NW GL TL ⊢
    go_upto_region 3 with (go_at_call 31; refine (KEY.out _).mono ?_; rintro e w2 ⟨rfl, hb2⟩; have B2 := Lib.hid (AL.out.trans (below_lower hb2 AL.out.size)); have N2 := Lib.hid (blk_below NW.out hb2); have T2 := Lib.hid (TB.below TL.out hb2); have G2 := Lib.hid (Glob.below GL.out hb2); clear hb2)
    go_upto_region 5 with (go_at_call 12; refine (LN.out _ G2.out).mono ?_; rintro e w3 ⟨v0, rfl, hr, hb3⟩; obtain ⟨A0, c0, rfl⟩ := Kd.R_slice hr; have C3 := Aside0.mk (Kd.R_reads' hr).2.2; have B3 := Lib.hid (B2.out.trans (below_lower hb3 B2.out.size)); have N3 := Lib.hid (blk_below N2.out hb3); have T3 := Lib.hid (TB.below T2.out hb3); clear hb3 hr)
    clear AL NW GL TL B2 N2 T2 G2 KEY LN
    generalize (lineS p).2 = le
    obtain ⟨l, hl⟩ : ∃ l, l = (lineS p).1 := ⟨_, rfl⟩
    have HLL := Lib.hid (line_len p)
    rw [← hl] at C3 HLL ⊢
    have HL := Lib.hid hl
    clear hl
    go_loopg [29] l.length (fun g v29 wr => ∃ (i : Nat), v29 = .int .i64 (i : Int) ∧ Aside0 (i + g = l.length) ∧ Aside0 (∀ a ∈ l.take i, hasAt M s v a = false) ∧ Aside0 (Below w3.heap.size w3 wr))
    case atStart => exact ⟨0, rfl, ⟨by omega⟩, ⟨by simp⟩, ⟨Below.refl _ _⟩⟩
    case round =>
      obtain ⟨i, rfl, HG, HN, HBw⟩ := hrel
      by_cases hi : i < l.length
      · have hfc := Kd.at_string (Kd.C_below C3.out HBw.out) (i : Int) (by omega) (by omega)
        obtain ⟨ad, e115, hx115⟩ := hfc
        cases e115
        obtain ⟨q, hq⟩ : ∃ q, q = rdOf ByteArray.empty l (i : Int) := ⟨_, rfl⟩
        rw [← hq, Int.toNat_natCast] at hx115
        have HQ := Lib.hid (show l.take (i + 1) = l.take i ++ [q] ∧ l = l.take i ++ q :: l.drop (i + 1) by rw [hq, rd_at _ i hi]; exact ⟨List.take_succ_eq_append_getElem hi, by conv => lhs; rw [← List.take_append_drop i l, List.drop_eq_getElem_cons hi]⟩)
        clear hq
        have p115 : (0 ≤ (i : Int)) = True := eq_true (by omega)
        have q115 : ((i : Int) < (l.length : Int)) = True := eq_true (by omega)
        have qd : decide ((i : Int) < (l.length : Int)) = true := decide_eq_true (by omega)
        obtain ⟨g0, rfl⟩ : ∃ g0, gk = g0 + 1 := ⟨gk - 1, by have := HG.out; omega⟩
        have HI := Lib.hid hi
        clear hi
        go_upto_region 9 with fail
        have hbl := (Below.refl wr.heap.size wr).alloc (Nat.le_refl _) (.cells #[.string ⟨#[]⟩, .string ⟨#[]⟩, .string ⟨#[]⟩, .int .i64 0] 27)
        have B4 := Lib.hid (HBw.out.trans (below_lower hbl HBw.out.size))
        have T4 := Lib.hid (TB.belowB T3.out B4.out T3.out.lt.1 T3.out.lt.2)
        have Z4 := Lib.hid (blk_new wr (.cells #[.string ⟨#[]⟩, .string ⟨#[]⟩, .string ⟨#[]⟩, .int .i64 0] 27))
        obtain ⟨bb, hbb⟩ : ∃ bb, bb = wr.heap.size := ⟨_, rfl⟩
        have HBB := Lib.hid (show w3.heap.size ≤ bb by rw [hbb]; exact HBw.out.size)
        rw [← hbb] at Z4 ⊢
        clear hbl hx115 p115 q115 qd hbb
        generalize wr.alloc _ = w4 at B4 T4 Z4 ⊢
        obtain ⟨o4, hr4, hR4⟩ := T4.out.holds.range (P := Tryd.prog) (T := 66) (eT := 27) (kT := 70) Tryd.underlying66
        have hc4 := T4.out.cell
        have R4 := Aside0.mk hR4
        clear hR4
        go_upto_region 10 with fail
        have B5 := Aside0.mk (B4.out.alloc B4.out.size o4)
        have Z5 := Aside0.mk (blk_alloc Z4.out o4)
        obtain ⟨rr, hrr⟩ : ∃ rr, rr = w4.heap.size := ⟨_, rfl⟩
        have HRR := Lib.hid (show bb < rr by rw [hrr]; exact blk_lt Z4.out)
        rw [← hrr] at R4 ⊢
        clear hr4 hc4 hrr B4 T4 Z4
        generalize w4.alloc o4 = w5 at R4 B5 Z5 ⊢
        go_loopg [15] M.length (fun g v15 wq => ∃ (c : Bnd) (fd : Bool) (L : Tab), v15 = .bool fd ∧ L.length ≤ g ∧ Aside0 (Ranging eK eV wq b rr M L) ∧ Aside0 (wq.heap[bb]? = some (.cells #[.string c.path, .string c.name, .string c.subject, .int .i64 c.verb] 27 (0, 0))) ∧ Aside0 (Below w3.heap.size w3 wq) ∧ Aside0 (Best M L s v q c fd))
        case atStart => exact ⟨zb, false, M, rfl, Nat.le_refl _, R4, Z5, B5, ⟨Best.start M s v q⟩⟩
        case round =>
          clear R4 Z5 B5
          obtain ⟨c, fd, L, rfl, hg, HRg, HZ, HB, HBest⟩ := hrel
          rcases HRg.out.next (P := Tryd.prog) 0 with ⟨hL, hrun⟩ | ⟨A, pr, B, hL, wd, o2, hwd, hrun, hat⟩
          · subst hL
            cases fd with
            | false =>
              go_wp2
              go_roundg g0
              case measure => omega
              case rel => exact ⟨i + 1, by (have := HI.out; have := HLL.out; rw [w64 i (by omega)]), ⟨by have := HG.out; omega⟩, ⟨by rw [HQ.out.1]; intro a ha; rcases List.mem_append.1 ha with ha | ha; exact HN.out a ha; rw [List.mem_singleton.1 ha]; exact HBest.out.none⟩, HB⟩
            | true =>
              have N4 := Lib.hid ((HB.out.block _ (blk_lt N3.out)).trans N3.out)
              have hb0 := (blk_cell HZ.out 0).trans rfl
              have hb1 := (blk_cell HZ.out 1).trans rfl
              have hb2 := (blk_cell HZ.out 2).trans rfl
              have hb3 := (blk_cell HZ.out 3).trans rfl
              have hc0 := (blk_cell N4.out 0).trans rfl
              have hc1 := (blk_cell N4.out 1).trans rfl
              have hc2 := (blk_cell N4.out 2).trans rfl
              have hc3 := (blk_cell N4.out 3).trans rfl
              have hf0 := blk_frozen N4.out 0
              have hf1 := blk_frozen N4.out 1
              have hf2 := blk_frozen N4.out 2
              have hf3 := blk_frozen N4.out 3
              go_wp2
              have Z4 := Lib.hid (blk_put4 (b0 := .string c.path) (b1 := .string c.name) (b2 := .string c.subject) (b3 := .int .i64 c.verb) N4.out)
              have B4 := Lib.hid (below_put4 (b0 := .string c.path) (b1 := .string c.name) (b2 := .string c.subject) (b3 := .int .i64 c.verb) (B3.out.trans (below_lower HB.out B3.out.size)) (Nat.le_refl _))
              clear hc0 hc1 hc2 hc3 hf0 hf1 hf2 hf3 hb0 hb1 hb2 hb3
              generalize World.setCell _ _ _ = w6 at Z4 B4 ⊢
              (try simp only [Exit.inBlock, Exit.then])
              refine bodyPost_ret (results_cell_row_tmp rfl _ _ w.heap.size 27 _ (0, 0) _ rfl Z4.out hu27 rfl (by kernel_rfl)) rfl ?_
              refine ⟨⟨c, true, rfl, .inr ⟨rfl, HV.out, l.take i, q, l.drop (i + 1), ?_, HN.out, HBest.out.found⟩⟩, B4.out⟩
              rw [← HL.out]; exact HQ.out.2
          · subst hL
            cases gk with
            | zero => simp at hg
            | succ g =>
              have hent := hat.entry (P := Tryd.prog)
              have hbs : Below w3.heap.size w3 (setBlock wd rr o2) := by
                have hd : Below w3.heap.size w3 wd := by rcases hwd with rfl | rfl; exact HB.out; exact below_drew1 HB.out
                exact ⟨hd.os, hd.tape, hd.output, by rw [set_size]; exact hd.size, fun k hk => by rw [set_far _ _ _ _ (by have := HBB.out; have := HRR.out; omega)]; exact hd.block k hk⟩
              have hzs : (setBlock wd rr o2).heap[bb]? = some (.cells #[.string c.path, .string c.name, .string c.subject, .int .i64 c.verb] 27 (0, 0)) := by
                rw [set_far _ _ _ _ (by have := HRR.out; omega)]
                rcases hwd with rfl | rfl <;> exact HZ.out
              have hin := Ranging_in HRg.out (x := pr) (by simp)
              have HBS := Lib.hid hbs
              have HZS := Lib.hid hzs
              have HAT := Lib.hid hat
              have HIN := Lib.hid hin
              clear hbs hat hwd hzs hin HRg HZ HB
              unfold eK eV at hrun hent
              generalize setBlock wd rr o2 = w6 at HBS HZS HAT hrun hent
              obtain ⟨⟨kp, kn⟩, ⟨vp, vn, vs, vv⟩⟩ := pr
              go_upto_region 12 with fail
              have A7 := Aside0.mk (Ranging_alloc (Ranging_alloc HAT.out.on (.cells #[.string kp, .string kn] 70)) (.cells #[.string vp, .string vn, .string vs, .int .i64 vv] 27))
              have B7 := Aside0.mk ((HBS.out.alloc HBS.out.size (.cells #[.string kp, .string kn] 70)).alloc (HBS.out.alloc HBS.out.size (.cells #[.string kp, .string kn] 70)).size (.cells #[.string vp, .string vn, .string vs, .int .i64 vv] 27))
              have Z7 := Aside0.mk (blk_alloc (blk_alloc HZS.out (.cells #[.string kp, .string kn] 70)) (.cells #[.string vp, .string vn, .string vs, .int .i64 vv] 27))
              have K7 := Aside0.mk (blk_alloc (blk_new w6 (.cells #[.string kp, .string kn] 70)) (.cells #[.string vp, .string vn, .string vs, .int .i64 vv] 27))
              have V7 := Aside0.mk (blk_new (w6.alloc (.cells #[.string kp, .string kn] 70)) (.cells #[.string vp, .string vn, .string vs, .int .i64 vv] 27))
              rw [show (w6.alloc (.cells #[.string kp, .string kn] 70)).heap.size = w6.heap.size + 1 by simp] at V7
              obtain ⟨kk, hkk⟩ : ∃ kk, kk = w6.heap.size := ⟨_, rfl⟩
              obtain ⟨vb, hvb⟩ : ∃ vb, vb = w6.heap.size + 1 := ⟨_, rfl⟩
              rw [← hvb] at V7
              rw [← hkk] at K7
              rw [← hkk, show kk + 1 = vb by rw [hkk, hvb]]
              clear hkk hvb HAT HBS HZS hrun hent
              generalize World.alloc (World.alloc _ _) _ = w7 at A7 B7 Z7 K7 V7 ⊢
              have hk0 := (blk_cell K7.out 0).trans rfl
              have hv0 := (blk_cell V7.out 0).trans rfl
              have hv1 := (blk_cell V7.out 1).trans rfl
              have hv2 := (blk_cell V7.out 2).trans rfl
              have hv3 := (blk_cell V7.out 3).trans rfl
              have hb1 := (blk_cell Z7.out 1).trans rfl
              by_cases c1 : kp = q
              rotate_left
              · have e1 : (kp.toList == q.toList) = false := by rw [toList_beq, Bool.eq_false_iff, Ne, ba_beq]; exact c1
                go_wp2
                go_roundg g
                case measure => omega
                case rel => exact ⟨c, fd, A ++ B, rfl, by simp at hg ⊢; omega, A7, Z7, B7, ⟨HBest.out.skip (fun hm => absurd hm.1 c1)⟩⟩
              by_cases c2 : vs = s
              rotate_left
              · have e1 : (kp.toList == q.toList) = true := by rw [toList_beq, ba_beq]; exact c1
                have e2 : (vs.toList == s.toList) = false := by rw [toList_beq, Bool.eq_false_iff, Ne, ba_beq]; exact c2
                go_wp2
                go_roundg g
                case measure => omega
                case rel => exact ⟨c, fd, A ++ B, rfl, by simp at hg ⊢; omega, A7, Z7, B7, ⟨HBest.out.skip (fun hm => absurd hm.2.1 c2)⟩⟩
              by_cases c3 : v ≤ vv
              rotate_left
              · have e1 : (kp.toList == q.toList) = true := by rw [toList_beq, ba_beq]; exact c1
                have e2 : (vs.toList == s.toList) = true := by rw [toList_beq, ba_beq]; exact c2
                have e3 : decide (vv ≥ v) = false := decide_eq_false c3
                go_wp2
                go_roundg g
                case measure => omega
                case rel => exact ⟨c, fd, A ++ B, rfl, by simp at hg ⊢; omega, A7, Z7, B7, ⟨HBest.out.skip (fun hm => absurd hm.2.2 (by first | exact c3 | exact Int.not_le.2 c3))⟩⟩
              have e1 : (kp.toList == q.toList) = true := by rw [toList_beq, ba_beq]; exact c1
              have e2 : (vs.toList == s.toList) = true := by rw [toList_beq, ba_beq]; exact c2
              have e3 : decide (vv ≥ v) = true := decide_eq_true c3
              subst c2
              have hb0 := (blk_cell Z7.out 0).trans rfl
              have hb2 := (blk_cell Z7.out 2).trans rfl
              have hb3 := (blk_cell Z7.out 3).trans rfl
              have hf0 := blk_frozen Z7.out 0
              have hf1 := blk_frozen Z7.out 1
              have hf2 := blk_frozen Z7.out 2
              have hf3 := blk_frozen Z7.out 3
              cases fd with
              | false =>
                go_wp2
                go_roundg g
                case measure => omega
                case rel => exact ⟨⟨vp, vn, _, vv⟩, true, A ++ B, rfl, by simp at hg ⊢; omega, ⟨A7.out.move (heap_put4 (by have := HBB.out; have := T3.out.lt.2; omega)) (heap_put4 (by have := HRR.out; omega))⟩, ⟨blk_put4 Z7.out⟩, ⟨below_put4 B7.out HBB.out⟩, ⟨HBest.out.take HIN.out ⟨c1, rfl, c3⟩ (fun h => (by cases h))⟩⟩
              | true =>
                cases e4 : Op.bytesLess vn.toList c.name.toList with
                | true =>
                  go_wp2
                  go_roundg g
                  case measure => omega
                  case rel => exact ⟨⟨vp, vn, _, vv⟩, true, A ++ B, rfl, by simp at hg ⊢; omega, ⟨A7.out.move (heap_put4 (by have := HBB.out; have := T3.out.lt.2; omega)) (heap_put4 (by have := HRR.out; omega))⟩, ⟨blk_put4 Z7.out⟩, ⟨below_put4 B7.out HBB.out⟩, ⟨HBest.out.take HIN.out ⟨c1, rfl, c3⟩ (fun _ => e4)⟩⟩
                | false =>
                  go_wp2
                  go_roundg g
                  case measure => omega
                  case rel => exact ⟨c, true, A ++ B, rfl, by simp at hg ⊢; omega, A7, Z7, B7, ⟨HBest.out.skip (fun hm => ⟨rfl, e4⟩)⟩⟩
      · have qd : decide ((i : Int) < (l.length : Int)) = false := decide_eq_false (by omega)
        have HI := Lib.hid hi
        clear hi
        have N4 := Lib.hid ((HBw.out.block _ (blk_lt N3.out)).trans N3.out)
        have hc0 := (blk_cell N4.out 0).trans rfl
        have hc1 := (blk_cell N4.out 1).trans rfl
        have hc2 := (blk_cell N4.out 2).trans rfl
        have hc3 := (blk_cell N4.out 3).trans rfl
        have hf0 := blk_frozen N4.out 0
        have hf1 := blk_frozen N4.out 1
        have hf2 := blk_frozen N4.out 2
        have hf3 := blk_frozen N4.out 3
        go_wp2
        have Z4 := Lib.hid (blk_put4 (b0 := .string ⟨#[]⟩) (b1 := .string ⟨#[]⟩) (b2 := .string ⟨#[]⟩) (b3 := .int .i64 0) N4.out)
        have B4 := Lib.hid (below_put4 (b0 := .string ⟨#[]⟩) (b1 := .string ⟨#[]⟩) (b2 := .string ⟨#[]⟩) (b3 := .int .i64 0) (B3.out.trans (below_lower HBw.out B3.out.size)) (Nat.le_refl _))
        clear hc0 hc1 hc2 hc3 hf0 hf1 hf2 hf3
        generalize World.setCell _ _ _ = w4 at Z4 B4 ⊢
        (try simp only [Exit.inBlock, Exit.then])
        refine bodyPost_ret (results_cell_row_tmp rfl _ _ w.heap.size 27 _ (0, 0) _ rfl Z4.out hu27 rfl (by kernel_rfl)) rfl ?_
        refine ⟨⟨zb, false, rfl, .inl ⟨rfl, rfl, ?_⟩⟩, B4.out⟩
        unfold whyB
        rw [HV.out, Bool.true_and, ← HL.out, List.any_eq_false]
        intro a ha
        rw [HN.out a (by rw [List.take_of_length_le (by have := HI.out; omega)]; exact ha)]
        decide
end Go.Proofs.YtphddbijdfmpjaaDoor.Wr
namespace Go.Proofs.YtphddbijdfmpjaaDoor.Wr
open Go.RowKit Go.MapRaw Go.Proofs.YtphddbijdfmpjaaDoorW.PrintWords Go.Proofs.YtphddbijdfmpjaaDoorW.PrintLast Go.Proofs.YtphddbijdfmpjaaDoor.Q
open Go.ChangeMaps (setBlock)
set_option linter.unusedVariables false
set_option linter.unusedSimpArgs false
theorem root_list : ([114, 111, 111, 116] : List UInt8) = rootS.toList := by rw [ByteArray.toList_eq]; rfl
set_option maxRecDepth 100000 in
set_option maxHeartbeats 8000000 in
theorem may_ok (w : World) (t b : Nat) (M : Tab) (s : ByteArray) (v : Int) (p : ByteArray) (hT : TB w t b M) (hG : Glob w) :
    Calls Tryd.prog 13 #[.pointer (some ⟨t, 0, none⟩), .string s, .int .i64 v, .string p] w fun e w' => e = .returned (.bool (mayB M s v p)) ∧ Below w.heap.size w w' := by
  have hu27 := Tryd.underlying27
  by_cases hs : s = rootS
  · have hM : mayB M s v p = (isV v && decide (pathS p = 0)) := by unfold mayB; rw [if_pos hs]
    rw [hM]
    have hr : (s.toList == ([114, 111, 111, 116] : List UInt8)) = true := by rw [root_list, toList_beq, ba_beq]; exact hs
    have key := verb_ok v
    have hp := path_ok p
    have GL := Lib.hid hG
    clear hM hT hs hG
    cases hv : isV v with
    | false =>
      rw [hv] at key
      have KEY := Lib.hid key
      clear hp key hv
      go_enter Tryd.func13, Tryd.ntmps13
      go_wp2_with (go_at_call 31; refine (KEY.out _).mono ?_; rintro e w2 ⟨rfl, hb2⟩; have B2 := Lib.hid hb2; clear hb2)
      go_ret
      exact ⟨rfl, B2.out⟩
    | true =>
      rw [hv] at key
      have KEY := Lib.hid key
      have PK := Lib.hid hp
      clear hp key hv
      rcases line_cases p with ⟨h0, _⟩ | ⟨h0, _⟩
      · rw [h0] at PK ⊢
        go_enter Tryd.func13, Tryd.ntmps13
        go_wp2_with (first | (go_at_call 31; refine (KEY.out _).mono ?_; rintro e w2 ⟨rfl, hb2⟩; have B2 := Lib.hid hb2; clear hb2) | (go_at_call 19; refine (PK.out _ (Glob.below GL.out B2.out)).mono ?_; rintro e w3 ⟨rfl, hb3⟩; have B3 := Lib.hid (B2.out.trans (below_lower hb3 B2.out.size)); clear hb3))
        go_ret
        exact ⟨rfl, B3.out⟩
      · rw [h0] at PK ⊢
        go_enter Tryd.func13, Tryd.ntmps13
        go_wp2_with (first | (go_at_call 31; refine (KEY.out _).mono ?_; rintro e w2 ⟨rfl, hb2⟩; have B2 := Lib.hid hb2; clear hb2) | (go_at_call 19; refine (PK.out _ (Glob.below GL.out B2.out)).mono ?_; rintro e w3 ⟨rfl, hb3⟩; have B3 := Lib.hid (B2.out.trans (below_lower hb3 B2.out.size)); clear hb3))
        go_ret
        exact ⟨rfl, B3.out⟩
  · have hM : mayB M s v p = whyB M s v p := by unfold mayB; rw [if_neg hs]
    rw [hM]
    have hr : (s.toList == ([114, 111, 111, 116] : List UInt8)) = false := by rw [root_list, toList_beq, Bool.eq_false_iff, Ne, ba_beq]; exact hs
    have KEY := Lib.hid (why_ok w t b M s v p hT hG)
    clear hM hT hs hG
    go_enter Tryd.func13, Tryd.ntmps13
    go_wp2_with (go_at_call 32; refine KEY.out.mono ?_; rintro e w2 ⟨⟨⟨cp, cn, cs, cv⟩, fd, rfl, hw⟩, hb2⟩; have HF := Lib.hid hw.found; have B2 := Lib.hid hb2; unfold eV; clear hb2 hw)
    go_ret
    exact ⟨by rw [← HF.out] <;> rfl, B2.out.trans (below_lower ((Below.refl _ _).alloc (Nat.le_refl _) _) B2.out.size)⟩
end Go.Proofs.YtphddbijdfmpjaaDoor.Wr
namespace Go.Proofs.YtphddbijdfmpjaaDoor.Wr
open Go.RowKit Go.MapRaw Go.Proofs.YtphddbijdfmpjaaDoorW.PrintWords Go.Proofs.YtphddbijdfmpjaaDoorW.PrintLast Go.Proofs.YtphddbijdfmpjaaDoor.Q
open Go.ChangeMaps (setBlock)
set_option linter.unusedVariables false
set_option linter.unusedSimpArgs false
def b0 : Bnd := ⟨⟨#[47, 97]⟩, ⟨#[119]⟩, ⟨#[97, 110, 110]⟩, 1⟩
def M0 : Tab := [((⟨#[47, 97]⟩, ⟨#[119]⟩), b0)]
theorem b0_formed : formedB b0 = true := by decide +kernel
theorem set_b0 : setE [] b0 = 0 := by unfold setE; rw [if_pos b0_formed, if_neg (by decide)]
theorem setM_b0 : setM [] b0 = M0 := by unfold setM; rw [if_pos set_b0]; rfl
theorem drop_b0 : dropE M0 ⟨#[47, 97]⟩ ⟨#[119]⟩ = 0 := by decide +kernel
theorem dropM_b0 : dropM M0 ⟨#[47, 97]⟩ ⟨#[119]⟩ = [] := by unfold dropM; rw [if_pos drop_b0]; decide +kernel
theorem may1 : mayB M0 ⟨#[97, 110, 110]⟩ 0 ⟨#[47, 97, 47, 98]⟩ = true := by decide +kernel
theorem may2 : mayB M0 ⟨#[97, 110, 110]⟩ 1 ⟨#[47, 97]⟩ = true := by decide +kernel
theorem may3 : mayB M0 ⟨#[97, 110, 110]⟩ 2 ⟨#[47, 97]⟩ = false := by decide +kernel
theorem may4 : mayB M0 ⟨#[97, 110, 110]⟩ 0 ⟨#[47, 97, 98]⟩ = false := by decide +kernel
theorem may5 : mayB M0 ⟨#[98, 111, 98]⟩ 0 ⟨#[47, 97]⟩ = false := by decide +kernel
theorem may6 : mayB [] ⟨#[97, 110, 110]⟩ 0 ⟨#[47, 97]⟩ = false := by decide +kernel
theorem may7 : mayB [] ⟨#[114, 111, 111, 116]⟩ 3 ⟨#[47, 97]⟩ = true := by decide +kernel
end Go.Proofs.YtphddbijdfmpjaaDoor.Wr
namespace Go.Proofs.YtphddbijdfmpjaaDoor.Wr
open Go.RowKit Go.MapRaw Go.Proofs.YtphddbijdfmpjaaDoorW.PrintWords Go.Proofs.YtphddbijdfmpjaaDoorW.PrintLast Go.Proofs.YtphddbijdfmpjaaDoor.Q
open Go.ChangeMaps (setBlock)
set_option linter.unusedVariables false
set_option linter.unusedSimpArgs false
theorem may_lit {ar : Array Value} {w : World} {x y : Bool} (h : Calls Tryd.prog 13 ar w fun e w' => e = .returned (.bool x) ∧ Below w.heap.size w w') (e : x = y) : Calls Tryd.prog 13 ar w fun e w' => e = .returned (.bool y) ∧ Below w.heap.size w w' := by rw [← e]; exact h
theorem set_lit {w : World} {t b : Nat} (hT : TB w t b []) (hG : Glob w) : Calls Tryd.prog 20 #[.pointer (some ⟨t, 0, none⟩), .agg #[.string ⟨#[47, 97]⟩, .string ⟨#[119]⟩, .string ⟨#[97, 110, 110]⟩, .int .i64 1]] w fun e w' => e = .returned (.int .i64 0) ∧ TB w' t b M0 ∧ Off b w w' := by
  have h := set_ok w t b [] b0 hT hG (by simp)
  rw [set_b0, setM_b0] at h
  exact h
theorem drop_lit {w : World} {t b : Nat} (hT : TB w t b M0) (hG : Glob w) : Calls Tryd.prog 21 #[.pointer (some ⟨t, 0, none⟩), .string ⟨#[47, 97]⟩, .string ⟨#[119]⟩] w fun e w' => e = .returned (.int .i64 0) ∧ TB w' t b [] ∧ Off b w w' := by
  have h := drop_ok w t b M0 ⟨#[47, 97]⟩ ⟨#[119]⟩ hT hG
  rw [drop_b0, dropM_b0] at h
  exact h
set_option maxRecDepth 100000 in
set_option maxHeartbeats 8000000 in
theorem lives_ok (w : World) (hG : Glob w) : Calls Tryd.prog 10 #[] w fun e w' => ∃ t b, e = .returned (.pointer (some ⟨t, 0, none⟩)) ∧ TB w' t b [] ∧ w.heap.size ≤ t ∧ w.heap.size ≤ b ∧ Below w.heap.size w w' := by
  have NEW := Lib.hid (newT_ok w)
  have K1 := Lib.hid (fun t b w' (hT : TB w' t b M0) hG => may_lit (may_ok w' t b M0 ⟨#[97, 110, 110]⟩ 0 ⟨#[47, 97, 47, 98]⟩ hT hG) may1)
  have K2 := Lib.hid (fun t b w' (hT : TB w' t b M0) hG => may_lit (may_ok w' t b M0 ⟨#[97, 110, 110]⟩ 1 ⟨#[47, 97]⟩ hT hG) may2)
  have K3 := Lib.hid (fun t b w' (hT : TB w' t b M0) hG => may_lit (may_ok w' t b M0 ⟨#[97, 110, 110]⟩ 2 ⟨#[47, 97]⟩ hT hG) may3)
  have K4 := Lib.hid (fun t b w' (hT : TB w' t b M0) hG => may_lit (may_ok w' t b M0 ⟨#[97, 110, 110]⟩ 0 ⟨#[47, 97, 98]⟩ hT hG) may4)
  have K5 := Lib.hid (fun t b w' (hT : TB w' t b M0) hG => may_lit (may_ok w' t b M0 ⟨#[98, 111, 98]⟩ 0 ⟨#[47, 97]⟩ hT hG) may5)
  have K6 := Lib.hid (fun t b w' (hT : TB w' t b []) hG => may_lit (may_ok w' t b [] ⟨#[97, 110, 110]⟩ 0 ⟨#[47, 97]⟩ hT hG) may6)
  have K7 := Lib.hid (fun t b w' (hT : TB w' t b []) hG => may_lit (may_ok w' t b [] ⟨#[114, 111, 111, 116]⟩ 3 ⟨#[47, 97]⟩ hT hG) may7)
  go_enter Tryd.func10, Tryd.ntmps10
  go_upto_region 2 with (go_at_call 29; refine NEW.out.mono ?_; rintro e w1 ⟨t, b, rfl, hT, ht, hb, hb1⟩; have B1 := Lib.hid hb1; have T1 := Lib.hid hT; have HT := Lib.hid ht; have HB := Lib.hid hb; clear hT ht hb hb1)
  clear NEW
  go_upto_region 4 with (go_at_call 20; refine (set_lit T1.out (Glob.below hG B1.out)).mono ?_; rintro e w2 ⟨rfl, hT, ho⟩; have B2 := Lib.hid (B1.out.trans (ho.belowB HB.out B1.out.size)); have T2 := Lib.hid hT; clear hT ho T1)
  replace K1 := Lib.hid (K1.out t b)
  replace K2 := Lib.hid (K2.out t b)
  replace K3 := Lib.hid (K3.out t b)
  replace K4 := Lib.hid (K4.out t b)
  replace K5 := Lib.hid (K5.out t b)
  replace K6 := Lib.hid (K6.out t b)
  replace K7 := Lib.hid (K7.out t b)
  go_upto_region 6 with (first
    | (go_at_call 13; (with_reducible refine (K1.out _ T2.out (Glob.below hG B2.out)).mono ?_); rintro e w3 ⟨rfl, hb⟩; have B3 := Lib.hid (B2.out.trans (below_lower hb B2.out.size)); have T3 := Lib.hid (T2.out.below hb); clear hb T2)
    | (go_at_call 13; (with_reducible refine (K2.out _ T3.out (Glob.below hG B3.out)).mono ?_); rintro e w4 ⟨rfl, hb⟩; have B4 := Lib.hid (B3.out.trans (below_lower hb B3.out.size)); have T4 := Lib.hid (T3.out.below hb); clear hb T3)
    | (go_at_call 13; (with_reducible refine (K3.out _ T4.out (Glob.below hG B4.out)).mono ?_); rintro e w5 ⟨rfl, hb⟩; have B5 := Lib.hid (B4.out.trans (below_lower hb B4.out.size)); have T5 := Lib.hid (T4.out.below hb); clear hb T4)
    | (go_at_call 13; (with_reducible refine (K4.out _ T5.out (Glob.below hG B5.out)).mono ?_); rintro e w6 ⟨rfl, hb⟩; have B6 := Lib.hid (B5.out.trans (below_lower hb B5.out.size)); have T6 := Lib.hid (T5.out.below hb); clear hb T5)
    | (go_at_call 13; (with_reducible refine (K5.out _ T6.out (Glob.below hG B6.out)).mono ?_); rintro e w7 ⟨rfl, hb⟩; have B7 := Lib.hid (B6.out.trans (below_lower hb B6.out.size)); have T7 := Lib.hid (T6.out.below hb); clear hb T6))
  go_wp2_with (first
    | (go_at_call 21; refine (drop_lit T7.out (Glob.below hG B7.out)).mono ?_; rintro e w8 ⟨rfl, hT, ho⟩; have B8 := Lib.hid (B7.out.trans (ho.belowB HB.out B7.out.size)); have T8 := Lib.hid hT; clear hT ho T7)
    | (go_at_call 13; (with_reducible refine (K6.out _ T8.out (Glob.below hG B8.out)).mono ?_); rintro e w9 ⟨rfl, hb⟩; have B9 := Lib.hid (B8.out.trans (below_lower hb B8.out.size)); have T9 := Lib.hid (T8.out.below hb); clear hb T8)
    | (go_at_call 13; (with_reducible refine (K7.out _ T9.out (Glob.below hG B9.out)).mono ?_); rintro e w10 ⟨rfl, hb⟩; have B10 := Lib.hid (B9.out.trans (below_lower hb B9.out.size)); have T10 := Lib.hid (T9.out.below hb); clear hb T9))
  go_ret
  exact ⟨t, b, rfl, T10.out, HT.out, HB.out, B10.out⟩
end Go.Proofs.YtphddbijdfmpjaaDoor.Wr
namespace Go.Proofs.YtphddbijdfmpjaaDoor.Wr
open Go.RowKit Go.MapRaw Go.Proofs.YtphddbijdfmpjaaDoorW.PrintWords Go.Proofs.YtphddbijdfmpjaaDoorW.PrintLast Go.Proofs.YtphddbijdfmpjaaDoor.Q
open Go.ChangeMaps (setBlock)
set_option linter.unusedVariables false
set_option linter.unusedSimpArgs false
structure OpV where
  two : Bool
  kind : Int
  verb : Int
  b : Bnd
  path : ByteArray
  name : ByteArray
  subject : ByteArray
def oCells (o : OpV) : List Value := [.bool o.two, .int .i64 o.kind, .int .i64 o.verb, .string o.b.path, .string o.b.name, .string o.b.subject, .int .i64 o.b.verb, .string o.path, .string o.name, .string o.subject]
def eO (o : OpV) : Value := .agg #[.bool o.two, .int .i64 o.kind, .int .i64 o.verb, .string o.b.path, .string o.b.name, .string o.b.subject, .int .i64 o.b.verb, .string o.path, .string o.name, .string o.subject]
def playM (M : Tab) (o : OpV) : Tab := if o.kind = 1 then setM M o.b else if o.kind = 2 then dropM M o.path o.name else if o.kind = 3 then leaveM o.path M else M
theorem playM_len (M : Tab) (o : OpV) : (playM M o).length ≤ M.length + 1 := by
  unfold playM
  split
  · exact setM_len M o.b
  · split
    · have := dropM_len M o.path o.name; omega
    · split
      · have := leaveM_len o.path M; omega
      · omega
set_option maxRecDepth 100000 in
set_option maxHeartbeats 8000000 in
theorem play_ok (w : World) (t b : Nat) (M : Tab) (o : OpV) (hT : TB w t b M) (hG : Glob w) (hM : M.length ≤ 2513169434843) :
    Calls Tryd.prog 11 #[.pointer (some ⟨t, 0, none⟩), eO o] w fun e w' => e = .returned (.tuple #[]) ∧ TB w' t b (playM M o) ∧ Off b w w' := by
  obtain ⟨two, kd, vb, ⟨bp, bn, bs, bv⟩, pa, na, su⟩ := o
  have hu27 := Tryd.underlying27
  have hu29 := Tryd.underlying29
  have hal := (Below.refl w.heap.size w).alloc (Nat.le_refl _) (.cells #[.bool two, .int .i64 kd, .int .i64 vb, .string bp, .string bn, .string bs, .int .i64 bv, .string pa, .string na, .string su] 29)
  have hnew := blk_new w (.cells #[.bool two, .int .i64 kd, .int .i64 vb, .string bp, .string bn, .string bs, .int .i64 bv, .string pa, .string na, .string su] 29)
  have AL := Lib.hid hal
  have NW := Lib.hid hnew
  have GL := Lib.hid (Glob.below hG hal)
  have TL := Lib.hid (TB.below hT hal)
  have HM := Lib.hid hM
  clear hal hnew hG hT hM
  unfold eO
  go_enter Tryd.func11, Tryd.ntmps11
  go_upto_region 1 with fail
  generalize w.alloc _ = w1 at AL NW GL TL ⊢
  have hd0 := (blk_cell NW.out 0).trans rfl
  have hd1 := (blk_cell NW.out 1).trans rfl
  have hd2 := (blk_cell NW.out 2).trans rfl
  have hd3 := (blk_cell NW.out 3).trans rfl
  have hd4 := (blk_cell NW.out 4).trans rfl
  have hd5 := (blk_cell NW.out 5).trans rfl
  have hd6 := (blk_cell NW.out 6).trans rfl
  have hd7 := (blk_cell NW.out 7).trans rfl
  have hd8 := (blk_cell NW.out 8).trans rfl
  have hd9 := (blk_cell NW.out 9).trans rfl
  by_cases c1 : kd = 1
  · have e1 : (kd == 1) = true := beq_iff_eq.2 c1
    have hp : playM M ⟨two, kd, vb, ⟨bp, bn, bs, bv⟩, pa, na, su⟩ = setM M ⟨bp, bn, bs, bv⟩ := by unfold playM; rw [if_pos c1]
    have KEY := Lib.hid (set_ok w1 t b M ⟨bp, bn, bs, bv⟩ TL.out GL.out HM.out)
    have HP := Lib.hid hp
    clear hp
    go_wp2_with (go_at_call 20; refine KEY.out.mono ?_; rintro e w2 ⟨rfl, hT, ho⟩; have T2 := Lib.hid hT; have O2 := Lib.hid ho; clear hT ho)
    go_end0
    exact ⟨rfl, by rw [HP.out]; exact T2.out, (Off.of_below AL.out).trans O2.out⟩
  have e1 : (kd == 1) = false := beq_eq_false_iff_ne.2 c1
  by_cases c2 : kd = 2
  · have e2 : (kd == 2) = true := beq_iff_eq.2 c2
    have hp : playM M ⟨two, kd, vb, ⟨bp, bn, bs, bv⟩, pa, na, su⟩ = dropM M pa na := by unfold playM; rw [if_neg c1, if_pos c2]
    have KEY := Lib.hid (drop_ok w1 t b M pa na TL.out GL.out)
    have HP := Lib.hid hp
    clear hp
    go_wp2_with (go_at_call 21; refine KEY.out.mono ?_; rintro e w2 ⟨rfl, hT, ho⟩; have T2 := Lib.hid hT; have O2 := Lib.hid ho; clear hT ho)
    go_end0
    exact ⟨rfl, by rw [HP.out]; exact T2.out, (Off.of_below AL.out).trans O2.out⟩
  have e2 : (kd == 2) = false := beq_eq_false_iff_ne.2 c2
  by_cases c3 : kd = 3
  · have e3 : (kd == 3) = true := beq_iff_eq.2 c3
    have hp : playM M ⟨two, kd, vb, ⟨bp, bn, bs, bv⟩, pa, na, su⟩ = leaveM pa M := by unfold playM; rw [if_neg c1, if_neg c2, if_pos c3]
    have KEY := Lib.hid (leave_ok w1 t b M pa TL.out HM.out)
    have HP := Lib.hid hp
    clear hp
    go_wp2_with (go_at_call 22; refine KEY.out.mono ?_; rintro e w2 ⟨rfl, hT, ho⟩; have T2 := Lib.hid hT; have O2 := Lib.hid ho; clear hT ho)
    go_end0
    exact ⟨rfl, by rw [HP.out]; exact T2.out, (Off.of_below AL.out).trans O2.out⟩
  have e3 : (kd == 3) = false := beq_eq_false_iff_ne.2 c3
  have hp : playM M ⟨two, kd, vb, ⟨bp, bn, bs, bv⟩, pa, na, su⟩ = M := by unfold playM; rw [if_neg c1, if_neg c2, if_neg c3]
  have HP := Lib.hid hp
  clear hp
  go_wp2
  go_end0
  exact ⟨rfl, by rw [HP.out]; exact TL.out, Off.of_below AL.out⟩
end Go.Proofs.YtphddbijdfmpjaaDoor.Wr
namespace Go.Proofs.YtphddbijdfmpjaaDoor.Q
open Go.RowKit Go.Proofs.YtphddbijdfmpjaaDoorW.PrintWords Go.Proofs.YtphddbijdfmpjaaDoorW.PrintLast Go.ChangeShapes Go.Proofs.YtphddbijdfmpjaaDoor.Wr
set_option linter.unusedVariables false
set_option linter.unusedSimpArgs false
def k27 : Kd Bnd := Kd.iso (Kd.pair Kd.string (Kd.pair Kd.string (Kd.pair Kd.string (Kd.int .i64)))) (fun b => (b.path, b.name, b.subject, b.verb))
def k29 : Kd OpV := Kd.iso (Kd.pair Kd.bool (Kd.pair (Kd.int .i64) (Kd.pair (Kd.int .i64) (Kd.pair k27 (Kd.pair Kd.string (Kd.pair Kd.string Kd.string)))))) (fun o => (o.two, o.kind, o.verb, o.b, o.path, o.name, o.subject))
theorem k29_cells {w : World} {o : OpV} {c : List Value} (h : k29.K w o c) : c = oCells o := by
  obtain ⟨c0, d0, rfl, h0, c1, d1, rfl, h1, c2, d2, rfl, h2, c3, d3, rfl, ⟨b0, e0, rfl, g0, b1, e1, rfl, g1, b2, e2, rfl, g2, g3⟩, c4, d4, rfl, h4, c5, d5, rfl, h5, h6⟩ := h
  have h0' : c0 = [.bool o.two] := h0
  have h1' : c1 = [.int .i64 o.kind] := h1
  have h2' : c2 = [.int .i64 o.verb] := h2
  have g0' : b0 = [.string o.b.path] := g0
  have g1' : b1 = [.string o.b.name] := g1
  have g2' : b2 = [.string o.b.subject] := g2
  have g3' : e2 = [.int .i64 o.b.verb] := g3
  have h4' : c4 = [.string o.path] := h4
  have h5' : c5 = [.string o.name] := h5
  have h6' : d5 = [.string o.subject] := h6
  subst h0' h1' h2' g0' g1' g2' g3' h4' h5' h6'
  rfl
theorem add_off (ad : Addr) (n j : Nat) (hj : j ≠ 0) : ad.add (n + j) = ⟨(ad.add n).block, (ad.add n).off + j, none⟩ := by
  unfold Addr.add
  by_cases hn : n = 0
  · subst hn; simp [hj]
  · simp [hn, Nat.add_assoc]
theorem op_at {w : World} {A : Option Addr} {l : List OpV} (h : k29.C w A l.length l) (i : Nat) (hi : i < l.length) : ∃ ad, A = some ad ∧ w.cell? (ad.add (i * 10)) = some (.bool l[i].two) ∧ ∀ j u, j ≠ 0 → (oCells l[i])[j]? = some u → w.cell? ⟨(ad.add (i * 10)).block, (ad.add (i * 10)).off + j, none⟩ = some u := by
  obtain ⟨ad, c, hA, _, hK, hc⟩ := Kd.C_get h l[i] (i : Int) (by omega) (by omega)
  have hg : l.getD (i : Int).toNat l[i] = l[i] := by rw [Int.toNat_natCast]; simp [hi]
  rw [hg] at hK
  have := k29_cells hK
  subst this
  refine ⟨ad, hA, ?_, fun j u hj hu => ?_⟩
  · have := hc 0 _ rfl
    rw [Int.toNat_natCast] at this
    exact this
  · have := hc j u hu
    rw [Int.toNat_natCast] at this
    rw [← add_off _ _ _ hj]
    exact this
def StrD {H : Type} (x : DataW H) (s : ByteArray) : Prop := x = .lit (.string s.data.toList) ∧ s.size ≤ maxLen
def IntD {H : Type} (x : DataW H) (n : Int) : Prop := x = .lit (.int .i64 n) ∧ (Lit.int .i64 n).wf = true
def BnD {H : Type} (x : DataW H) (b : Bnd) : Prop := ∃ l, x = .agg l ∧ ∃ y r, l = y :: r ∧ StrD y b.path ∧ ∃ y r1, r = y :: r1 ∧ StrD y b.name ∧ ∃ y r2, r1 = y :: r2 ∧ StrD y b.subject ∧ ∃ y, r2 = [y] ∧ IntD y b.verb
def OpD {H : Type} (x : DataW H) (o : OpV) : Prop := ∃ l, x = .agg l ∧ ∃ y r, l = y :: r ∧ y = .lit (.bool o.two) ∧ ∃ y r1, r = y :: r1 ∧ IntD y o.kind ∧ ∃ y r2, r1 = y :: r2 ∧ IntD y o.verb ∧ ∃ y r3, r2 = y :: r3 ∧ BnD y o.b ∧ ∃ y r4, r3 = y :: r4 ∧ StrD y o.path ∧ ∃ y r5, r4 = y :: r5 ∧ StrD y o.name ∧ ∃ y, r5 = [y] ∧ StrD y o.subject
section
variable {H : Type} {enc : TypeId × Value → H} {w : World} {base : Nat} {spare : Nat → Bool} {held : Bool}
theorem opens27 : Opens enc Tryd.prog w base spare held 27 k27 BnD :=
  opens_struct (fun b : Bnd => (b.path, b.name, b.subject, b.verb)) (fun a => ⟨a.1, a.2.1, a.2.2.1, a.2.2.2⟩) (fun _ => rfl) Tryd.underlying27 (by kernel_rfl)
    (opens_cons rfl (by kernel_rfl) (opens_string Tryd.underlying9) (opens_cons rfl (by kernel_rfl) (opens_string Tryd.underlying9) (opens_cons rfl (by kernel_rfl) (opens_string Tryd.underlying9) (opens_one rfl (by kernel_rfl) (opens_int Tryd.underlying3)))))
theorem opens29 : Opens enc Tryd.prog w base spare held 29 k29 OpD :=
  opens_struct (fun o : OpV => (o.two, o.kind, o.verb, o.b, o.path, o.name, o.subject)) (fun a => ⟨a.1, a.2.1, a.2.2.1, a.2.2.2.1, a.2.2.2.2.1, a.2.2.2.2.2.1, a.2.2.2.2.2.2⟩) (fun _ => rfl) Tryd.underlying29 (by kernel_rfl)
    (opens_cons rfl (by kernel_rfl) (opens_bool Tryd.underlying4) (opens_cons rfl (by kernel_rfl) (opens_int Tryd.underlying3) (opens_cons rfl (by kernel_rfl) (opens_int Tryd.underlying3)
      (opens_cons rfl (by kernel_rfl) opens27 (opens_cons rfl (by kernel_rfl) (opens_string Tryd.underlying9) (opens_cons rfl (by kernel_rfl) (opens_string Tryd.underlying9) (opens_one rfl (by kernel_rfl) (opens_string Tryd.underlying9))))))))
end
end Go.Proofs.YtphddbijdfmpjaaDoor.Q
namespace Go.Proofs
open Go.Shelf
def Tryd.sortB_ren : Go.Shelf.Ren := ⟨fun | 6 => 38 | 15 => 57 | 14 => 56 | 28 => 82 | 29 => 83 | 20 => 74 | 21 => 75 | 22 => 76 | 23 => 77 | 24 => 78 | 25 => 79 | 26 => 80 | 27 => 81 | 46 => 94 | 47 => 95 | 48 => 96 | 49 => 97 | 50 => 98 | 57 => 102 | n => n, fun | 22 => 36 | 24 => 27 | 25 => 77 | 3 => 3 | 39 => 89 | 0 => 0 | 53 => 110 | 55 => 112 | 4 => 4 | 46 => 103 | 45 => 102 | 50 => 107 | 5 => 5 | 9 => 9 | 66 => 123 | 70 => 127 | 76 => 131 | 77 => 132 | n => n, fun | n => n⟩
theorem Tryd.sortB : Go.Proofs.SlLaysF0.n6 Tryd.prog Tryd.sortB_ren := {
  mixed := by kernel_rfl
  f6 := ⟨Tryd.f38.name, by decide, Tryd.func38.trans (congrArg some (by kernel_rfl))⟩
  f14 := ⟨Tryd.f56.name, by decide, Tryd.func56.trans (congrArg some (by kernel_rfl))⟩
  f15 := Tryd.func57.trans (congrArg some (by kernel_rfl))
  f20 := ⟨Tryd.f74.name, by decide, Tryd.func74.trans (congrArg some (by kernel_rfl))⟩
  f21 := ⟨Tryd.f75.name, by decide, Tryd.func75.trans (congrArg some (by kernel_rfl))⟩
  f22 := ⟨Tryd.f76.name, by decide, Tryd.func76.trans (congrArg some (by kernel_rfl))⟩
  f23 := ⟨Tryd.f77.name, by decide, Tryd.func77.trans (congrArg some (by kernel_rfl))⟩
  f24 := ⟨Tryd.f78.name, by decide, Tryd.func78.trans (congrArg some (by kernel_rfl))⟩
  f25 := ⟨Tryd.f79.name, by decide, Tryd.func79.trans (congrArg some (by kernel_rfl))⟩
  f26 := ⟨Tryd.f80.name, by decide, Tryd.func80.trans (congrArg some (by kernel_rfl))⟩
  f27 := ⟨Tryd.f81.name, by decide, Tryd.func81.trans (congrArg some (by kernel_rfl))⟩
  f28 := Tryd.func82.trans (congrArg some (by kernel_rfl))
  f29 := Tryd.func83.trans (congrArg some (by kernel_rfl))
  f46 := ⟨Tryd.f94.name, by decide, Tryd.func94.trans (congrArg some (by kernel_rfl))⟩
  f47 := Tryd.func95.trans (congrArg some (by kernel_rfl))
  f48 := Tryd.func96.trans (congrArg some (by kernel_rfl))
  f49 := ⟨Tryd.f97.name, by decide, Tryd.func97.trans (congrArg some (by kernel_rfl))⟩
  f50 := ⟨Tryd.f98.name, by decide, Tryd.func98.trans (congrArg some (by kernel_rfl))⟩
  f57 := ⟨Tryd.f102.name, by decide, Tryd.func102.trans (congrArg some (by kernel_rfl))⟩
  t0 := Tryd.underlying0
  a0 := Tryd.isAgg0
  z0 := Tryd.sizeOf0
  v0 := Tryd.zeroValue0
  t3 := Tryd.underlying3
  a3 := Tryd.isAgg3
  z3 := Tryd.sizeOf3
  v3 := Tryd.zeroValue3
  t4 := Tryd.underlying4
  a4 := Tryd.isAgg4
  z4 := Tryd.sizeOf4
  v4 := Tryd.zeroValue4
  t5 := Tryd.underlying5
  a5 := Tryd.isAgg5
  z5 := Tryd.sizeOf5
  v5 := Tryd.zeroValue5
  t9 := Tryd.underlying9
  a9 := Tryd.isAgg9
  z9 := Tryd.sizeOf9
  v9 := Tryd.zeroValue9
  t22 := Tryd.underlying36
  a22 := Tryd.isAgg36
  z22 := Tryd.sizeOf36
  v22 := Tryd.zeroValue36
  t25 := Tryd.underlying77
  a25 := Tryd.isAgg77
  z25 := Tryd.sizeOf77
  v25 := Tryd.zeroValue77
  t39 := Tryd.underlying89
  a39 := Tryd.isAgg89
  z39 := Tryd.sizeOf89
  v39 := Tryd.zeroValue89
  t45 := Tryd.underlying102
  a45 := Tryd.isAgg102
  z45 := Tryd.sizeOf102
  v45 := Tryd.zeroValue102
  t46 := Tryd.underlying103
  a46 := Tryd.isAgg103
  z46 := Tryd.sizeOf103
  v46 := Tryd.zeroValue103
  t50 := Tryd.underlying107
  a50 := Tryd.isAgg107
  z50 := Tryd.sizeOf107
  v50 := Tryd.zeroValue107
  t53 := Tryd.underlying110
  a53 := Tryd.isAgg110
  z53 := Tryd.sizeOf110
  v53 := Tryd.zeroValue110
  t55 := Tryd.underlying112
  a55 := Tryd.isAgg112
  z55 := Tryd.sizeOf112
  v55 := Tryd.zeroValue112
  t66 := Tryd.underlying123
  a66 := Tryd.isAgg123
  z66 := Tryd.sizeOf123
  v66 := Tryd.zeroValue123
  t70 := Tryd.underlying127
  a70 := Tryd.isAgg127
  z70 := Tryd.sizeOf127
  v70 := Tryd.zeroValue127
  t76 := Tryd.underlying131
  a76 := Tryd.isAgg131
  z76 := Tryd.sizeOf131
  v76 := Tryd.zeroValue131
  t77 := Tryd.underlying132
  a77 := Tryd.isAgg132
  z77 := Tryd.sizeOf132
  v77 := Tryd.zeroValue132 }
end Go.Proofs
namespace Go.Proofs.YtphddbijdfmpjaaDoor.Q
open Go.RowKit Go.Lib Go.Sort Go.Shelf Go.Proofs.YtphddbijdfmpjaaDoorW.PrintWords Go.Proofs.YtphddbijdfmpjaaDoorW.PrintLast Go.Proofs.YtphddbijdfmpjaaDoor.Wr
set_option linter.unusedVariables false
set_option linter.unusedSimpArgs false
instance : Inhabited Bnd := ⟨zb⟩
def encB (x : Bnd) : List Value := [.string x.path, .string x.name, .string x.subject, .int .i64 x.verb]
theorem ltB (x y : Bnd) : ltOf cmpB x y = decide (cmpB x y < 0) := rfl
theorem swoB : SWO (ltOf cmpB) where
  irrefl x := by rw [ltB, ordB.self]; rfl
  trans x y z h1 h2 := by
    rw [ltB, decide_eq_true_eq] at *
    exact ordB.lt_le h1 (by omega)
  ntrans x y z h1 h2 := by
    rw [ltB, decide_eq_false_iff_not] at *
    have e1 := ordB.neg x y
    have e2 := ordB.neg y z
    have e3 := ordB.neg x z
    have := ordB.le z y x (by omega) (by omega)
    omega
theorem glob_size {w : World} (h : Glob w) : 2 ≤ w.heap.size := by
  obtain ⟨m, hm⟩ := h.maxLen
  by_cases h1 : 1 < w.heap.size
  · exact h1
  · have : w.heap[1]? = none := Array.getElem?_eq_none (by omega)
    simp [World.cell?, this] at hm
theorem glob_grown {w w' : World} {g : Nat} (h : Glob w) (hg : w.grownBy w' (some g)) (h2 : 2 ≤ g) : Glob w' := by
  have hs := glob_size h
  obtain ⟨m, hm⟩ := h.maxLen
  refine ⟨⟨m, ?_⟩, ?_⟩
  · rw [World.cell?_of_block (w := w) (hg.block 1 (by omega) (fun e => by cases e; omega))]; exact hm
  · rw [World.cell?_of_block (w := w) (hg.block 0 (by omega) (fun e => by cases e; omega))]; exact h.letterB
theorem flat_get {xs : List Bnd} {t : Nat} (ht : t < xs.length * 4) : (flatK encB 4 xs.toArray).toList[t]? = (encB (xs.getD (t / 4) zb))[t % 4]? := by
  have hj : t / 4 < xs.length := by omega
  have h1 : (flatK encB 4 xs.toArray).toList[t]? = some ((encB (xs.toArray[t / 4]!))[t % 4]!) := by
    rw [Array.getElem?_toList]
    simp [flatK, ht]
  have h2 : xs.toArray[t / 4]! = xs.getD (t / 4) zb := by
    simp [List.getD_eq_getElem?_getD, hj]
  rw [h1, h2]
  have h3 : t % 4 = 0 ∨ t % 4 = 1 ∨ t % 4 = 2 ∨ t % 4 = 3 := by omega
  rcases h3 with h3 | h3 | h3 | h3 <;> rw [h3] <;> rfl
theorem flat_len (xs : List Bnd) : (flatK encB 4 xs.toArray).toList.length = xs.length * 4 := by simp
theorem k27_openM {w : World} {base : Nat} {ok : Nat → Prop} {x : Bnd} {cs : List Value} (h : k27.M w base ok x cs) : cs = encB x := by
  obtain ⟨b0, e0, rfl, g0, b1, e1, rfl, g1, b2, e2, rfl, g2, g3⟩ := h
  have g0' : b0 = [.string x.path] := g0
  have g1' : b1 = [.string x.name] := g1
  have g2' : b2 = [.string x.subject] := g2
  have g3' : e2 = [.int .i64 x.verb] := g3
  subst g0' g1' g2' g3'
  rfl
theorem k27_mkM (w : World) (base : Nat) (ok : Nat → Prop) (x : Bnd) : k27.M w base ok x (encB x) :=
  ⟨[.string x.path], [.string x.name, .string x.subject, .int .i64 x.verb], rfl, rfl, [.string x.name], [.string x.subject, .int .i64 x.verb], rfl, rfl, [.string x.subject], [.int .i64 x.verb], rfl, rfl, rfl⟩
theorem inner27 {w : World} {base : Nat} {ok : Nat → Prop} {xs : List Bnd} {inner : List Value} (h : Reps (k27.M w base ok) 4 xs inner) : inner = (flatK encB 4 xs.toArray).toList := by
  apply List.ext_getElem?
  intro t
  by_cases ht : t < xs.length * 4
  · have hj : t / 4 < xs.length := by omega
    have hk := k27_openM (h.2 (t / 4) _ (List.getElem?_eq_getElem hj))
    have h1 : inner[t]? = ((inner.drop (t / 4 * 4)).take 4)[t % 4]? := by
      rw [List.getElem?_take_of_lt (by omega), List.getElem?_drop]
      congr 1
      omega
    rw [h1, hk, flat_get ht]
    simp [encB, List.getD_eq_getElem?_getD, hj]
  · rw [List.getElem?_eq_none (by rw [h.1]; omega), List.getElem?_eq_none (by rw [flat_len]; omega)]
theorem reps27 (w : World) (base : Nat) (ok : Nat → Prop) (xs : List Bnd) : Reps (k27.M w base ok) 4 xs (flatK encB 4 xs.toArray).toList := by
  refine ⟨flat_len xs, fun j p hj => ?_⟩
  obtain ⟨hl, rfl⟩ := List.getElem?_eq_some_iff.1 hj
  have e : (((flatK encB 4 xs.toArray).toList.drop (j * 4)).take 4) = encB xs[j] := by
    apply List.ext_getElem?
    intro t
    by_cases ht : t < 4
    · rw [List.getElem?_take_of_lt ht, List.getElem?_drop, flat_get (by omega)]
      have h1 : (j * 4 + t) / 4 = j := by omega
      have h2 : (j * 4 + t) % 4 = t := by omega
      rw [h1, h2]
      simp [List.getD_eq_getElem?_getD, hl]
    · rw [List.getElem?_take_eq_none (by omega), List.getElem?_eq_none (by simp [encB]; omega)]
  rw [e]
  exact k27_mkM w base ok _
theorem holds27 {w : World} {g : Nat} {cur : Array Value} {e : TypeId} {xs : List Bnd} (hb : w.heap[g]? = some (.cells cur e (0, 0))) (ht : cur.toList.take (xs.length * 4) = (flatK encB 4 xs.toArray).toList) : HoldsK encB 4 w g 0 xs.toArray := by
  unfold HoldsK
  intro j hj
  have hj' : j < xs.length * 4 := by simpa using hj
  refine ⟨?_, by simp [World.frozen?, hb]⟩
  have h1 : (cur.toList.take (xs.length * 4))[j]? = (flatK encB 4 xs.toArray).toList[j]? := by rw [ht]
  rw [List.getElem?_take_of_lt hj'] at h1
  simp only [World.cell?, hb, Nat.zero_add]
  simp only [Option.isSome_none, Bool.false_eq_true, if_false]
  rw [← Array.getElem?_toList, h1, Array.getElem?_toList, Array.getElem?_eq_getElem hj, getElem!_pos _ j hj]
  rfl
theorem heap27 {w : World} {g n : Nat} {os : Array Obj} {cur : Array Value} {e : TypeId} {fr : Nat × Nat} (d : Array Bnd) (hb : w.heap[g]? = some (.cells cur e fr)) :
    (sortWorldK encB 4 w g 0 n d os).heap[g]? = some (.cells (putCells id 0 (flatK encB 4 d) cur) e fr) := by
  have hg : g < w.heap.size := (Array.getElem?_eq_some_iff.1 hb).1
  unfold sortWorldK putRowK
  rw [heap_grow_old _ _ (by simpa using hg)]
  simp [putRow, mapBlock, Sort.ahead, Array.getElem?_modify, hb, onCells]
theorem grown27 {w : World} {g n : Nat} {os : Array Obj} (d : Array Bnd) : w.grownBy (sortWorldK encB 4 w g 0 n d os) (some g) := by
  unfold sortWorldK putRowK
  refine ⟨rfl, rfl, rfl, by simp, fun k hk hne => ?_⟩
  rw [heap_grow_old _ _ (by simpa using hk)]
  have : g ≠ k := fun e => hne (by rw [e])
  simp [putRow, mapBlock, Sort.ahead, Array.getElem?_modify, this]
theorem take27 (cur : Array Value) (ts : List Bnd) (h : ts.length * 4 ≤ cur.size) : (putCells id 0 (flatK encB 4 ts.toArray) cur).toList.take (ts.length * 4) = (flatK encB 4 ts.toArray).toList := by
  apply List.ext_getElem?
  intro j
  by_cases hj : j < ts.length * 4
  · rw [List.getElem?_take_of_lt hj, Array.getElem?_toList, Array.getElem?_toList]
    simp [putCells, hj, show j < cur.size by omega]
  · rw [List.getElem?_take_eq_none (by omega), List.getElem?_eq_none (by rw [flat_len]; omega)]
theorem cmpLaysB (blk size : Nat) (w : World) (hG : Glob w) (h2 : 2 ≤ blk) : CmpLays Tryd.prog 39 #[] encB 4 cmpB blk 0 size w := by
  intro m os dk _ x y
  refine (cmp_ok x y _ (glob_grown hG (grown27 dk) h2)).mono ?_
  rintro e w' ⟨rfl, q, os', rfl⟩
  exact ⟨rfl, q, os', rfl⟩
theorem sort_calls (blk cap : Nat) (d : Array Bnd) (w : World) (hG : Glob w) (h2 : 2 ≤ blk) (hH : HoldsK encB 4 w blk 0 d) (hblk : blk < w.heap.size) (hsz : d.size < 4611686018427387904) :
    Calls Tryd.prog 38 #[.slice (some ⟨blk, 0, none⟩) d.size cap, .func (.func 39) #[] #[]] w fun e w' => e = .returned (.tuple #[]) ∧ ∃ d' n os, PermIn 0 d.size d d' ∧ SortedIn (ltOf cmpB) 0 d.size d' ∧ w' = sortWorldK encB 4 w blk 0 n d' os := by
  have eg : ∀ args w, (callFunc 39 args).run Tryd.prog w = .ok (.enter 39 args) w := enters_of Tryd.func39 (by kernel_rfl) rfl
  exact AnyQ.slices_SortFunc Tryd.sortB 4 Tryd.isAgg27 Tryd.sizeOf27 encB (fun _ => rfl) (fun x v hv => by simp [encB] at hv; rcases hv with rfl | rfl | rfl | rfl <;> rfl) cmpB swoB 39 #[] blk 0 cap d w eg (cmpLaysB blk d.size w hG h2) hH hblk hsz
def Rising (l : List Bnd) : Prop := l.Pairwise fun a b => cmpB a b ≤ 0
theorem sorted_is {xs : List Bnd} {d' : Array Bnd} (hp : PermIn 0 xs.toArray.size xs.toArray d') (hs : SortedIn (ltOf cmpB) 0 xs.toArray.size d') : d'.toList.Perm xs ∧ Rising d'.toList := by
  have hsz : d'.size = xs.length := by have := hp.1; simpa using this
  refine ⟨?_, ?_⟩
  · have := hp.2.2
    have e1 : d'.extract 0 xs.toArray.size = d' := by
      have : xs.toArray.size = d'.size := by simp [hsz]
      rw [this]
      exact Array.extract_size
    have e2 : xs.toArray.extract 0 xs.toArray.size = xs.toArray := Array.extract_size
    rw [e1, e2] at this
    simpa using this
  · unfold Rising
    rw [List.pairwise_iff_getElem]
    intro i j hi hj hij
    have := hs i j (Nat.zero_le _) hij (by simpa [hsz] using hj)
    rw [ltB, decide_eq_false_iff_not] at this
    have h3 : ¬ cmpB d'.toList[j] d'.toList[i] < 0 := by
      simpa [getElem!_pos, show i < d'.size by simpa using hi, show j < d'.size by simpa using hj] using this
    have := ordB.neg d'.toList[i] d'.toList[j]
    omega
theorem sort_row {w : World} {base : Nat} {ok : Nat → Prop} {v : Value} {xs : List Bnd} (HR : Kd.R k27 27 w base ok v xs) (hG : Glob w) (hb2 : 2 ≤ base) (hl : xs.length ≤ 2513169434843) :
    Calls Tryd.prog 38 #[v, .func (.func 39) #[] #[]] w fun e w' => e = .returned (.tuple #[]) ∧ ∃ L, L.Perm xs ∧ Rising L ∧ Kd.R k27 27 w' base ok v L ∧ w.grownBy w' v.ownBlock := by
  obtain ⟨h0, inner, ho, hi⟩ := HR
  rcases ho.2 with ⟨rfl, hn⟩ | ⟨g, cap, cur, rfl, hg, hb, h1, h2, h3, h4⟩
  · obtain rfl := List.eq_nil_of_length_eq_zero hn
    refine Calls.mono (AnyF.slices_SortFunc_none Tryd.sortB none 0 (.func (.func 39) #[] #[]) w) ?_
    rintro e w' ⟨rfl, rfl⟩
    exact ⟨rfl, [], .refl _, .nil, Kd.R_nil _ _ _ _ _, ⟨rfl, rfl, rfl, Nat.le_refl _, fun _ _ _ => rfl⟩⟩
  · have hin := inner27 hi
    have hH := holds27 hb (h4.trans hin)
    have hlt : g < w.heap.size := (Array.getElem?_eq_some_iff.1 hb).1
    have hc := sort_calls g cap xs.toArray w hG (by omega) hH hlt (by simp; omega)
    simp only [List.size_toArray] at hc
    refine hc.mono ?_
    rintro e w' ⟨rfl, d', n, os, hP, hS, rfl⟩
    have hd := sorted_is (by simpa using hP) (by simpa using hS)
    obtain ⟨L, hL⟩ : ∃ L, L = d'.toList := ⟨_, rfl⟩
    rw [← hL] at hd
    have hlen := hd.1.length_eq
    have hda : d' = L.toArray := by rw [hL]
    refine ⟨rfl, L, hd.1, hd.2, ⟨h0, (flatK encB 4 L.toArray).toList, ⟨flat_len L, .inr ⟨g, cap, _, by rw [hlen], hg, heap27 d' hb, by omega, h2, by simp [putCells, h3], ?_⟩⟩, reps27 _ _ _ L⟩, grown27 d'⟩
    rw [hda]
    exact take27 cur L (by rw [h3]; show L.length * 4 ≤ cap * 4; omega)
end Go.Proofs.YtphddbijdfmpjaaDoor.Q
namespace Go.Proofs.YtphddbijdfmpjaaDoor.Q
open Go.RowKit Go.MapRaw Go.Proofs.YtphddbijdfmpjaaDoorW.PrintWords Go.Proofs.YtphddbijdfmpjaaDoorW.PrintLast Go.Proofs.YtphddbijdfmpjaaDoor.Wr
open Go.ChangeMaps (setBlock)
set_option linter.unusedVariables false
set_option linter.unusedSimpArgs false
theorem info27 : (Tryd.prog.info? 27).map (fun i => (i.zero, i.size, i.bytes)) = some (some (.agg #[.string ⟨#[]⟩, .string ⟨#[]⟩, .string ⟨#[]⟩, .int .i64 0]), 4, 56) := by kernel_rfl
theorem perm_step (xs : List Bnd) (A B : Tab) (p : Key × Bnd) : ((xs ++ [p.2]) ++ (A ++ B).map fun p => p.2).Perm (xs ++ (A ++ p :: B).map fun p => p.2) := by
  rw [List.append_assoc]
  refine List.Perm.append_left _ ?_
  rw [List.map_append, List.map_append, List.map_cons]
  simp only [List.cons_append, List.nil_append]
  exact List.perm_middle.symm
def ListSays (M : Tab) (w : World) (e : Ending) (w' : World) : Prop := ∃ v L, e = .returned v ∧ L.Perm (M.map fun p => p.2) ∧ Rising L ∧ Kd.R k27 27 w' w.heap.size (fun _ => True) v L ∧ Below w.heap.size w w'
set_option maxRecDepth 100000 in
set_option maxHeartbeats 8000000 in
theorem list_ok (w : World) (t b : Nat) (M : Tab) (hT : TB w t b M) (hG : Glob w) (hM : M.length ≤ 2513169434843) :
    Calls Tryd.prog 17 #[.pointer (some ⟨t, 0, none⟩)] w fun e w' => ListSays M w e w' := by
  have hu27 := Tryd.underlying27
  obtain ⟨o, hr, hR⟩ := hT.holds.range (P := Tryd.prog) (T := 66) (eT := 27) (kT := 70) Tryd.underlying66
  have HRA := Aside0.mk hR
  have HM := Lib.hid hM
  have HT := Lib.hid hT
  have GL := Lib.hid hG
  have ht := hT.cell
  clear hT hR hM hG
  go_enter Tryd.func17, Tryd.ntmps17
  go_upto_region 3 with fail
  have HB1 := Aside0.mk ((Below.refl w.heap.size w).alloc (Nat.le_refl _) o)
  clear hr ht
  generalize w.alloc o = w1 at HB1 HRA ⊢
  obtain ⟨rr, hrr⟩ : ∃ rr, rr = w.heap.size := ⟨_, rfl⟩
  have HRR := Lib.hid hrr
  rw [← hrr] at HRA ⊢
  clear hrr
  go_loopg [3] M.length (fun g v3 wr => ∃ (xs : List Bnd) (L : Tab), L.length ≤ g ∧ Aside0 ((xs ++ L.map fun p => p.2).Perm (M.map fun p => p.2)) ∧ Aside0 (Kd.R k27 27 wr w.heap.size (fun k => k ≠ rr ∧ k ≠ b) v3 xs) ∧ Aside0 (Ranging eK eV wr b rr M L) ∧ Aside0 (Below w.heap.size w wr))
  case atStart => exact ⟨[], M, Nat.le_refl _, ⟨.refl _⟩, ⟨Kd.R_nil _ _ _ _ _⟩, HRA, HB1⟩
  case round =>
    clear HRA HB1
    obtain ⟨xs, L, hg, HP, HR, HRg, HB⟩ := hrel
    rcases HRg.out.next (P := Tryd.prog) 0 with ⟨hL, hrun⟩ | ⟨A, p, B, hL, wd, o2, hwd, hrun, hat⟩
    · subst hL
      have HLEN := Lib.hid (show xs.length ≤ 2513169434843 by have := HP.out.length_eq; simp at this; have := HM.out; omega)
      have SORT := Lib.hid (sort_row HR.out (GL.out.below HB.out) (glob_size GL.out) HLEN.out)
      go_wp2_with (go_at_call 38; refine SORT.out.mono ?_; rintro e w4 ⟨rfl, L2, hP2, hS2, hR2, hg2⟩; have HP2 := Lib.hid hP2; have HS2 := Lib.hid hS2; have HR2 := Lib.hid hR2; have HG2 := Lib.hid hg2; clear hP2 hS2 hR2 hg2)
      go_ret
      exact ⟨_, L2, rfl, HP2.out.trans (by have := HP.out; simpa using this), HS2.out, Kd.R_mono HR2.out (fun _ _ => trivial), HB.out.grown HG2.out HB.out.size (fun j hj => own_base HR.out.2.choose_spec.1 j hj)⟩
    · subst hL
      cases gk with
      | zero => simp at hg
      | succ g =>
        have hent := hat.entry (P := Tryd.prog)
        have hbs : Below w.heap.size w (setBlock wd rr o2) := below_setBlock (by rcases hwd with rfl | rfl; exact HB.out; exact below_drew1 HB.out) (by have := HRR.out; omega)
        have hrs : Kd.R k27 27 (setBlock wd rr o2) w.heap.size (fun k => k ≠ rr ∧ k ≠ b) u3 xs := Kd.R_move HR.out (fun k hk => by rw [set_far _ _ _ _ hk.1]; rcases hwd with rfl | rfl <;> rfl)
        have HBS := Lib.hid hbs
        have HRS := Lib.hid hrs
        have HAT := Lib.hid hat
        have HLX := Lib.hid (show xs.length ≤ 2513169434843 by have := HP.out.length_eq; simp at this; have := HM.out; omega)
        have HPN := Lib.hid (show ((xs ++ [p.2]) ++ (A ++ B).map fun p => p.2).Perm (M.map fun p => p.2) from (by
          refine List.Perm.trans ?_ HP.out
          exact perm_step xs A B p))
        clear hbs hat hwd hrs HRg HB HR HP
        unfold eK eV at hrun hent
        generalize setBlock wd rr o2 = w2 at HBS HRS HAT hrun hent
        obtain ⟨⟨kp, kn⟩, ⟨vp, vn, vs, vv⟩⟩ := p
        go_upto_region 5 with fail
        have HB3 := Aside0.mk (HBS.out.alloc HBS.out.size (.cells #[.string vp, .string vn, .string vs, .int .i64 vv] 27))
        have HR3 := Aside0.mk (Kd.R_alloc HRS.out (.cells #[.string vp, .string vn, .string vs, .int .i64 vv] 27))
        have HA3 := Aside0.mk (Ranging_alloc HAT.out.on (.cells #[.string vp, .string vn, .string vs, .int .i64 vv] 27))
        have HV3 := Aside0.mk (blk_new w2 (.cells #[.string vp, .string vn, .string vs, .int .i64 vv] 27))
        obtain ⟨vb, hvb⟩ : ∃ vb, vb = w2.heap.size := ⟨_, rfl⟩
        rw [← hvb] at HV3 ⊢
        clear hvb HBS HRS HAT hrun hent
        generalize w2.alloc _ = w3 at HB3 HR3 HA3 HV3 ⊢
        have hv0 := (blk_cell HV3.out 0).trans rfl
        have hv1 := (blk_cell HV3.out 1).trans rfl
        have hv2 := (blk_cell HV3.out 2).trans rfl
        have hv3 := (blk_cell HV3.out 3).trans rfl
        have HLT := Lib.hid (Ranging_lt HA3.out)
        go_wp2_with (first
          | ((with_reducible refine gate_builtin (b := .append) (xs := #[.tmp 15, .tmp 17]) rfl ?_); at_builtin; refine Kd.R_append k27 (w0 := w) w.heap.size rfl (.tmp 15) (.tmp 17) 36 27 (.agg #[.string ⟨#[]⟩, .string ⟨#[]⟩, .string ⟨#[]⟩, .int .i64 0]) 56 rfl Tryd.underlying36 info27 rfl (by decide) (by omega) u3 xs ⟨vp, vn, vs, vv⟩ [.string vp, .string vn, .string vs, .int .i64 vv] (fun k => k ≠ rr ∧ k ≠ b) (fun _ => False) rfl rfl ?aP (fun _ hk => hk.elim) ?aF ?aO ?aB ?aS ?aL ?_; (case aP => exact k27_mkM _ _ _ ⟨vp, vn, vs, vv⟩); (case aB => exact HB3.out); (case aF => exact (fun k hk => by have := HLT.out; constructor <;> omega)); (case aO => exact HR3.out); (case aS => exact HB3.out.size); (case aL => have := HLX.out; omega);
                intro v2 w4 ho hb2 hg2 hat2; have HO4 := Aside0.mk ho; have HB4 := Aside0.mk hb2; have HG4 := Lib.hid hg2; clear ho hb2 hg2 hat2))
        have HRG4 := Aside0.mk (HA3.out.move (HG4.out.block b HLT.out.1 (fun e => (HR3.out.1 b e.symm).2 rfl)) (HG4.out.block rr HLT.out.2 (fun e => (HR3.out.1 rr e.symm).1 rfl)))
        go_roundg g
        case measure => omega
        case rel => exact ⟨xs ++ [⟨vp, vn, vs, vv⟩], A ++ B, by simp at hg ⊢; omega, ⟨HPN.out⟩, HO4, HRG4, HB4⟩
end Go.Proofs.YtphddbijdfmpjaaDoor.Q
namespace Go.Proofs.YtphddbijdfmpjaaDoor.Wr
end Go.Proofs.YtphddbijdfmpjaaDoor.Wr
namespace Go.Proofs.YtphddbijdfmpjaaDoor.Q
end Go.Proofs.YtphddbijdfmpjaaDoor.Q
namespace Go.Proofs.YtphddbijdfmpjaaDoor.Q
open Go.RowKit Go.MapRaw Go.Proofs.YtphddbijdfmpjaaDoorW.PrintWords Go.Proofs.YtphddbijdfmpjaaDoorW.PrintLast Go.Proofs.YtphddbijdfmpjaaDoor.Wr
open Go.ChangeMaps (setBlock)
set_option linter.unusedVariables false
set_option linter.unusedSimpArgs false
theorem k27_cells {w : World} {x : Bnd} {c : List Value} (h : k27.K w x c) : c = encB x := by
  obtain ⟨b0, e0, rfl, g0, b1, e1, rfl, g1, b2, e2, rfl, g2, g3⟩ := h
  have g0' : b0 = [.string x.path] := g0
  have g1' : b1 = [.string x.name] := g1
  have g2' : b2 = [.string x.subject] := g2
  have g3' : e2 = [.int .i64 x.verb] := g3
  subst g0' g1' g2' g3'
  rfl
theorem bnd_at {w : World} {A : Option Addr} {l : List Bnd} (h : k27.C w A l.length l) (i : Nat) (hi : i < l.length) : ∃ ad, A = some ad ∧ w.cell? (ad.add (i * 4)) = some (.string l[i].path) ∧ ∀ j u, j ≠ 0 → (encB l[i])[j]? = some u → w.cell? ⟨(ad.add (i * 4)).block, (ad.add (i * 4)).off + j, none⟩ = some u := by
  obtain ⟨ad, c, hA, _, hK, hc⟩ := Kd.C_get h l[i] (i : Int) (by omega) (by omega)
  have hg : l.getD (i : Int).toNat l[i] = l[i] := by rw [Int.toNat_natCast]; simp [hi]
  rw [hg] at hK
  have := k27_cells hK
  subst this
  refine ⟨ad, hA, ?_, fun j u hj hu => ?_⟩
  · have := hc 0 _ rfl
    rw [Int.toNat_natCast] at this
    exact this
  · have := hc j u hu
    rw [Int.toNat_natCast] at this
    rw [← add_off _ _ _ hj]
    exact this
end Go.Proofs.YtphddbijdfmpjaaDoor.Q
namespace Go.Proofs.YtphddbijdfmpjaaDoor.Q
open Go.RowKit Go.MapRaw Go.Proofs.YtphddbijdfmpjaaDoorW.PrintWords Go.Proofs.YtphddbijdfmpjaaDoorW.PrintLast Go.Proofs.YtphddbijdfmpjaaDoor.Wr
open Go.ChangeMaps (setBlock)
set_option linter.unusedVariables false
set_option linter.unusedSimpArgs false
theorem eqA27 (d : Nat) (w : World) (x0 y0 x1 y1 x2 y2 : ByteArray) (x3 y3 : Int) : (Op.equalIn (d + 2) 27 (.agg #[.string x0, .string x1, .string x2, .int .i64 x3]) (.agg #[.string y0, .string y1, .string y2, .int .i64 y3])).run Tryd.prog w = .ok (x0.toList == y0.toList && (x1.toList == y1.toList && (x2.toList == y2.toList && x3 == y3))) w := by
  refine eqA_of Tryd.underlying27 (by kernel_rfl) ?_
  refine eqf_cons (by rfl) (by go_simp; rfl) (by go_simp; rfl) (by go_simp) ?_
  refine eqf_cons (by rfl) (by go_simp; rfl) (by go_simp; rfl) (by go_simp) ?_
  refine eqf_cons (by rfl) (by go_simp; rfl) (by go_simp; rfl) (by go_simp) ?_
  exact eqf_last (by rfl) (by go_simp; rfl) (by go_simp; rfl) (by go_simp)
def eqBnd (a b : Bnd) : Bool := a.path.toList == b.path.toList && (a.name.toList == b.name.toList && (a.subject.toList == b.subject.toList && a.verb == b.verb))
theorem eqBnd_iff (a b : Bnd) : eqBnd a b = true ↔ a = b := by
  obtain ⟨a1, a2, a3, a4⟩ := a
  obtain ⟨b1, b2, b3, b4⟩ := b
  unfold eqBnd
  simp only [Bool.and_eq_true, toList_beq, ba_beq, beq_iff_eq, Bnd.mk.injEq]
def sameB : List Bnd → List Bnd → Bool
  | [], [] => true
  | a :: x, b :: y => eqBnd a b && sameB x y
  | _, _ => false
theorem sameB_iff : ∀ x y : List Bnd, sameB x y = true ↔ x = y
  | [], [] => by simp [sameB]
  | [], _ :: _ => by simp [sameB]
  | _ :: _, [] => by simp [sameB]
  | a :: x, b :: y => by simp only [sameB, Bool.and_eq_true, eqBnd_iff, sameB_iff x y, List.cons.injEq]
theorem sameB_len : ∀ {x y : List Bnd}, x.length ≠ y.length → sameB x y = false
  | [], [], h => absurd rfl h
  | [], _ :: _, _ => rfl
  | _ :: _, [], _ => rfl
  | a :: x, b :: y, h => by
    unfold sameB
    rw [sameB_len (fun e => h (by simp [e])), Bool.and_false]
attribute [local go_sem high] eqA27
set_option maxRecDepth 100000 in
set_option maxHeartbeats 16000000 in
theorem same_ok (A B : Option Addr) (c d : Nat) (x y : List Bnd) (w : World) (hx : k27.C w A x.length x) (hy : k27.C w B y.length y) (hl : x.length ≤ 2513169434843) :
    Calls Tryd.prog 16 #[.slice A x.length c, .slice B y.length d] w fun e w' => e = .returned (.bool (sameB x y)) ∧ Below w.heap.size w w' := by
  have hu27 := Tryd.underlying27
  obtain ⟨res, hres⟩ : ∃ res, res = sameB x y := ⟨_, rfl⟩
  rw [← hres]
  have HRES := Lib.hid hres
  have HX := Aside0.mk hx
  have HY := Aside0.mk hy
  have HLL := Lib.hid hl
  clear hx hy hl hres
  by_cases hne : x.length = y.length
  rotate_left
  · have e1 : ((x.length : Int) != (y.length : Int)) = true := bne_iff_ne.2 (by omega)
    have e1n : (x.length != y.length) = true := bne_iff_ne.2 hne
    have HNE := Lib.hid hne
    clear hne
    go_enter Tryd.func16, Tryd.ntmps16
    go_wp2
    go_ret
    exact ⟨by rw [HRES.out, sameB_len HNE.out] <;> rfl, Below.refl _ _⟩
  have e1 : ((x.length : Int) != (y.length : Int)) = false := bne_eq_false_iff_eq.2 (by omega)
  have HNE := Lib.hid hne
  clear hne
  go_enter Tryd.func16, Tryd.ntmps16
  go_upto_region 4 with fail
  clear e1
  go_loopg [5] x.length (fun g v5 wr => ∃ (i : Nat), v5 = .int .i64 (i : Int) ∧ Aside0 (i + g = x.length) ∧ Aside0 (sameB (x.drop i) (y.drop i) = res) ∧ Aside0 (Below w.heap.size w wr))
  case atStart => exact ⟨0, rfl, ⟨by omega⟩, ⟨by rw [List.drop_zero, List.drop_zero]; exact HRES.out.symm⟩, ⟨Below.refl _ _⟩⟩
  case round =>
    obtain ⟨i, rfl, HI, HS, HB⟩ := hrel
    by_cases hi : i < x.length
    rotate_left
    · have q1 : decide ((i : Int) < (x.length : Int)) = false := decide_eq_false (by omega)
      have q1n : decide (i < x.length) = false := decide_eq_false hi
      have HD := Lib.hid (show x.drop i = [] ∧ y.drop i = [] from ⟨List.drop_of_length_le (by omega), List.drop_of_length_le (by have := HNE.out; omega)⟩)
      clear hi
      go_wp2
      go_ret
      exact ⟨by rw [← HS.out, HD.out.1, HD.out.2] <;> rfl, HB.out⟩
    have hj : i < y.length := by have := HNE.out; omega
    have q1 : decide ((i : Int) < (x.length : Int)) = true := decide_eq_true (by omega)
    have q1n : decide (i < x.length) = true := decide_eq_true hi
    have p1 : (0 ≤ (i : Int)) = True := eq_true (by omega)
    have p2 : ((i : Int) < (x.length : Int)) = True := eq_true (by omega)
    have p3 : ((i : Int) < (y.length : Int)) = True := eq_true (by omega)
    obtain ⟨ad, hA, hx0, hx⟩ := bnd_at (Kd.C_below HX.out HB.out) i hi
    cases hA
    obtain ⟨ae, hA, hy0, hy⟩ := bnd_at (Kd.C_below HY.out HB.out) i hj
    cases hA
    have HDX := Lib.hid (And.intro (List.drop_eq_getElem_cons hi) (List.drop_eq_getElem_cons hj))
    obtain ⟨g0, rfl⟩ : ∃ g0, gk = g0 + 1 := ⟨gk - 1, by have := HI.out; omega⟩
    have HLT := Lib.hid hi
    generalize x[i] = xx at hx0 hx HDX
    generalize y[i] = yy at hy0 hy HDX
    obtain ⟨xp, xn, xs, xv⟩ := xx
    obtain ⟨yp, yn, ys, yv⟩ := yy
    have hx1 := hx 1 (.string xn) (by decide) rfl
    have hx2 := hx 2 (.string xs) (by decide) rfl
    have hx3 := hx 3 (.int .i64 xv) (by decide) rfl
    have hy1 := hy 1 (.string yn) (by decide) rfl
    have hy2 := hy 2 (.string ys) (by decide) rfl
    have hy3 := hy 3 (.int .i64 yv) (by decide) rfl
    clear hi hj hx hy
    have HST := Lib.hid (show sameB (x.drop i) (y.drop i) = (eqBnd ⟨xp, xn, xs, xv⟩ ⟨yp, yn, ys, yv⟩ && sameB (x.drop (i + 1)) (y.drop (i + 1))) by rw [HDX.out.1, HDX.out.2]; rfl)
    obtain ⟨q, hq⟩ : ∃ q, q = eqBnd ⟨xp, xn, xs, xv⟩ ⟨yp, yn, ys, yv⟩ := ⟨_, rfl⟩
    rw [← hq] at HST
    have hq2 : (!xp.toList == yp.toList || (!xn.toList == yn.toList || (!xs.toList == ys.toList || !xv == yv))) = !q := by rw [hq]; unfold eqBnd; simp only [Bool.not_and]
    have HQ := Lib.hid hq2
    clear hq hq2
    go_upto_region 6 with fail
    refine start_ (n := 9) (S := fun w' => w'.cell? (ad.add (i * 4)) = some (.string xp) ∧ w'.cell? ⟨(ad.add (i * 4)).block, (ad.add (i * 4)).off + 1, none⟩ = some (.string xn) ∧ w'.cell? ⟨(ad.add (i * 4)).block, (ad.add (i * 4)).off + 2, none⟩ = some (.string xs) ∧ w'.cell? ⟨(ad.add (i * 4)).block, (ad.add (i * 4)).off + 3, none⟩ = some (.int .i64 xv) ∧ w'.cell? (ae.add (i * 4)) = some (.string yp) ∧ w'.cell? ⟨(ae.add (i * 4)).block, (ae.add (i * 4)).off + 1, none⟩ = some (.string yn) ∧ w'.cell? ⟨(ae.add (i * 4)).block, (ae.add (i * 4)).off + 2, none⟩ = some (.string ys) ∧ w'.cell? ⟨(ae.add (i * 4)).block, (ae.add (i * 4)).off + 3, none⟩ = some (.int .i64 yv)) (ds := []) #[false, false, false, false, false, false, false, false, false] (by kernel_rfl) rfl rfl ⟨hx0, hx1, hx2, hx3, hy0, hy1, hy2, hy3⟩ (fun hHeld => ?_)
    have B4 := Aside0.mk (below_drew1 HB.out)
    generalize World.drew _ = w4 at B4 hHeld ⊢
    refine pure_ (i := 0) (N := some 17) (v := ?_) (a' := ?_) #[true, false, false, false, false, false, false, false, false] rfl rfl (by kernel_rfl) (fun _ _ _ h => h) (Or.inl ⟨by rfl, ?_⟩) ?_ ?_
    rotate_left
    · intro w'
      go_simp
      with_reducible rfl
    rotate_left
    · simp only [Act.put, List.setIfInBounds_toArray, List.set_cons_zero, List.set_cons_succ, i64_w, i32_w]
      rfl
    refine pure_ (i := 1) (N := some 18) (v := ?_) (a' := ?_) #[true, true, false, false, false, false, false, false, false] rfl rfl (by kernel_rfl) (fun _ _ _ h => h) (Or.inl ⟨by rfl, ?_⟩) ?_ ?_
    rotate_left
    · intro w'
      go_simp
      with_reducible rfl
    rotate_left
    · simp only [Act.put, List.setIfInBounds_toArray, List.set_cons_zero, List.set_cons_succ, i64_w, i32_w]
      rfl
    refine pure_ (i := 2) (N := some 19) (v := ?_) (a' := ?_) #[true, true, true, false, false, false, false, false, false] rfl rfl (by kernel_rfl) (fun _ _ _ h => h) (Or.inl ⟨by rfl, ?_⟩) ?_ ?_
    rotate_left
    · intro w'
      go_simp
      with_reducible rfl
    rotate_left
    · simp only [Act.put, List.setIfInBounds_toArray, List.set_cons_zero, List.set_cons_succ, i64_w, i32_w]
      rfl
    refine take_ (i := 3) (N := some 20) (v := ?_) (a' := ?_) #[true, true, true, true, false, false, false, false, false] rfl rfl (by kernel_rfl) (fun _ _ _ h => h) (Or.inl ⟨by rfl, ?_⟩) hHeld ?_ ?_
    rotate_left
    · rintro w' ⟨s0, s1, s2, s3, s4, s5, s6, s7⟩
      go_simp
      with_reducible rfl
    rotate_left
    · simp only [Act.put, List.setIfInBounds_toArray, List.set_cons_zero, List.set_cons_succ, i64_w, i32_w]
      rfl
    refine pure_ (i := 4) (N := some 21) (v := ?_) (a' := ?_) #[true, true, true, true, true, false, false, false, false] rfl rfl (by kernel_rfl) (fun _ _ _ h => h) (Or.inl ⟨by rfl, ?_⟩) ?_ ?_
    rotate_left
    · intro w'
      go_simp
      with_reducible rfl
    rotate_left
    · simp only [Act.put, List.setIfInBounds_toArray, List.set_cons_zero, List.set_cons_succ, i64_w, i32_w]
      rfl
    refine pure_ (i := 5) (N := some 22) (v := ?_) (a' := ?_) #[true, true, true, true, true, true, false, false, false] rfl rfl (by kernel_rfl) (fun _ _ _ h => h) (Or.inl ⟨by rfl, ?_⟩) ?_ ?_
    rotate_left
    · intro w'
      go_simp
      with_reducible rfl
    rotate_left
    · simp only [Act.put, List.setIfInBounds_toArray, List.set_cons_zero, List.set_cons_succ, i64_w, i32_w]
      rfl
    refine pure_ (i := 6) (N := some 23) (v := ?_) (a' := ?_) #[true, true, true, true, true, true, true, false, false] rfl rfl (by kernel_rfl) (fun _ _ _ h => h) (Or.inl ⟨by rfl, ?_⟩) ?_ ?_
    rotate_left
    · intro w'
      go_simp
      with_reducible rfl
    rotate_left
    · simp only [Act.put, List.setIfInBounds_toArray, List.set_cons_zero, List.set_cons_succ, i64_w, i32_w]
      rfl
    refine take_ (i := 7) (N := some 24) (v := ?_) (a' := ?_) #[true, true, true, true, true, true, true, true, false] rfl rfl (by kernel_rfl) (fun _ _ _ h => h) (Or.inl ⟨by rfl, ?_⟩) hHeld ?_ ?_
    rotate_left
    · rintro w' ⟨s0, s1, s2, s3, s4, s5, s6, s7⟩
      go_simp
      with_reducible rfl
    rotate_left
    · simp only [Act.put, List.setIfInBounds_toArray, List.set_cons_zero, List.set_cons_succ, i64_w, i32_w]
      rfl
    refine pure_ (i := 8) (N := some 25) (v := ?_) (a' := ?_) #[true, true, true, true, true, true, true, true, true] rfl rfl (by kernel_rfl) (fun _ _ _ h => h) (Or.inl ⟨by rfl, ?_⟩) ?_ ?_
    rotate_left
    · intro w'
      go_simp
      with_reducible rfl
    rotate_left
    · simp only [Act.put, List.setIfInBounds_toArray, List.set_cons_zero, List.set_cons_succ, i64_w, i32_w]
      rfl
    refine done_ (by kernel_rfl) ?_
    rw [HQ.out]
    clear hx0 hx1 hx2 hx3 hy0 hy1 hy2 hy3 hHeld
    cases q with
    | true =>
      go_wp2
      go_roundg g0
      case measure => omega
      case rel => exact ⟨i + 1, congrArg (Value.int .i64) (by rw [w64 i (by have := HLT.out; have := HLL.out; omega)]), ⟨by have := HI.out; omega⟩, ⟨by rw [← HS.out, HST.out, Bool.true_and]⟩, B4⟩
    | false =>
      go_wp2
      go_ret
      exact ⟨by rw [← HS.out, HST.out, Bool.false_and] <;> rfl, B4.out⟩
end Go.Proofs.YtphddbijdfmpjaaDoor.Q
namespace Go.Proofs.YtphddbijdfmpjaaDoor.Q
open Go.RowKit Go.MapRaw Go.Proofs.YtphddbijdfmpjaaDoorW.PrintWords Go.Proofs.YtphddbijdfmpjaaDoorW.PrintLast Go.Proofs.YtphddbijdfmpjaaDoor.Wr
set_option linter.unusedVariables false
set_option linter.unusedSimpArgs false
def risesB (a b : Bnd) : Bool := if a.path = b.path then Op.bytesLess a.name.toList b.name.toList else decide (cmpL (splitS a.path).1 (splitS b.path).1 < 0)
set_option maxRecDepth 100000 in
set_option maxHeartbeats 16000000 in
theorem rises_ok (x y : Bnd) (w : World) (hG : Glob w) : Calls Tryd.prog 24 #[eV x, eV y] w fun e w' => e = .returned (.bool (risesB x y)) ∧ Below w.heap.size w w' := by
  obtain ⟨ap, an, as_, av⟩ := x
  obtain ⟨bp, bn, bs, bv⟩ := y
  obtain ⟨res, hres⟩ : ∃ res, res = risesB ⟨ap, an, as_, av⟩ ⟨bp, bn, bs, bv⟩ := ⟨_, rfl⟩
  rw [← hres]
  have HRES := Lib.hid hres
  clear hres
  have hu27 := Tryd.underlying27
  unfold eV
  have hg1 := (Grw.one w (.cells #[.string ap, .string an, .string as_, .int .i64 av] 27)).alloc (.cells #[.string bp, .string bn, .string bs, .int .i64 bv] 27)
  have hs1 : Two ((w.alloc (.cells #[.string ap, .string an, .string as_, .int .i64 av] 27)).alloc (.cells #[.string bp, .string bn, .string bs, .int .i64 bv] 27)) w.heap.size (w.heap.size + 1) ap an as_ bp bn bs av bv := by
    refine ⟨blk_alloc (blk_new w _) _, ?_⟩
    have := blk_new (w.alloc (.cells #[.string ap, .string an, .string as_, .int .i64 av] 27)) (.cells #[.string bp, .string bn, .string bs, .int .i64 bv] 27)
    rw [show (w.alloc (.cells #[.string ap, .string an, .string as_, .int .i64 av] 27)).heap.size = w.heap.size + 1 by simp] at this
    exact this
  have GL := Lib.hid hG
  have HG1 := Aside0.mk hg1
  have SF1 := Aside0.mk hs1
  clear hG hg1 hs1
  go_enter Tryd.func24, Tryd.ntmps24
  go_upto_region 1 with fail
  obtain ⟨r1, hr1⟩ : ∃ r1, r1 = w.heap.size := ⟨_, rfl⟩
  obtain ⟨r2, hr2⟩ : ∃ r2, r2 = w.heap.size + 1 := ⟨_, rfl⟩
  rw [← hr2, ← hr1] at SF1
  rw [← hr2, ← hr1]
  generalize World.alloc (World.alloc _ _) _ = w1 at HG1 SF1 ⊢
  clear hr1 hr2
  have hc0 := (two_cells SF1.out).1
  have hc1 := (two_cells SF1.out).2.1
  have hc2 := (two_cells SF1.out).2.2.1
  have hc3 := (two_cells SF1.out).2.2.2
  by_cases hp : ap = bp
  · have e1 : (ap.toList == bp.toList) = true := by rw [toList_beq, ba_beq]; exact hp
    have HP := Lib.hid hp
    clear hp
    obtain ⟨q, hq⟩ : ∃ q, q = Op.bytesLess an.toList bn.toList := ⟨_, rfl⟩
    have hq2 := hq.symm
    have HQ := Lib.hid hq
    clear hq
    go_wp2
    go_ret
    exact ⟨by rw [HRES.out]; unfold risesB; rw [if_pos HP.out, HQ.out] <;> rfl, HG1.out.below⟩
  have e1 : (ap.toList == bp.toList) = false := by rw [toList_beq, Bool.eq_false_iff, Ne, ba_beq]; exact hp
  have HP := Lib.hid hp
  clear hp
  have S1 := Lib.hid (split_grw ap)
  have S2 := Lib.hid (split_grw bp)
  go_upto_region 4 with (go_at_call 44; refine (S1.out _ (GL.out.below HG1.out.below)).mono ?_; rintro e w2 ⟨v0, rfl, ⟨A0, c0, rfl, hC⟩, hg⟩; have HG2 := Aside0.mk (HG1.out.trans hg); have SF2 := Aside0.mk (two_step SF1.out hg.below); have C2 := Aside0.mk hC; clear hC hg)
  clear hc0 hc1 hc2 hc3 HG1 SF1
  have hc2 := (two_cells SF2.out).2.2.1
  go_upto_region 6 with (go_at_call 44; refine (S2.out _ (GL.out.below HG2.out.below)).mono ?_; rintro e w3 ⟨v0, rfl, ⟨A1, c1, rfl, hC⟩, hg⟩; have HG3 := Aside0.mk (HG2.out.trans hg); have D3 := Aside0.mk hC; have C3 := Aside0.mk (Kd.C_below C2.out hg.below); clear hC hg)
  clear hc2 S1 S2 C2 HG2 SF2
  obtain ⟨x, hx⟩ : ∃ x, x = (splitS ap).1 := ⟨_, rfl⟩
  obtain ⟨y, hy⟩ : ∃ y, y = (splitS bp).1 := ⟨_, rfl⟩
  have HLX := Lib.hid (split_len ap)
  rw [← hx] at C3 HLX ⊢
  rw [← hy] at D3 ⊢
  have HR2 := Lib.hid (show res = decide (cmpL x y < 0) by rw [HRES.out]; unfold risesB; rw [if_neg HP.out, hx, hy])
  clear hx hy
  generalize (splitS ap).2 = ea
  generalize (splitS bp).2 = eb
  go_loopg [9] x.length (fun g v9 wr => ∃ (i : Nat), v9 = .int .i64 (i : Int) ∧ Aside0 (i + g = x.length) ∧ Aside0 (i ≤ y.length) ∧ Aside0 (cmpL (x.drop i) (y.drop i) = cmpL x y) ∧ Aside0 (Grw w3 wr))
  case atStart => exact ⟨0, rfl, ⟨by omega⟩, ⟨by omega⟩, ⟨by rw [List.drop_zero, List.drop_zero]⟩, ⟨Grw.refl _⟩⟩
  case round =>
    obtain ⟨i, rfl, HI, HIY, HC, HG⟩ := hrel
    by_cases hi : i < x.length
    rotate_left
    · have q1 : decide ((i : Int) < (x.length : Int)) = false := decide_eq_false (by omega)
      have q1n : decide (i < x.length) = false := decide_eq_false hi
      have HDX := Lib.hid (show x.drop i = [] from List.drop_of_length_le (by omega))
      have HIX := Lib.hid (show i = x.length by have := HI.out; omega)
      clear hi
      by_cases hlt : x.length < y.length
      · have q2 : decide ((x.length : Int) < (y.length : Int)) = true := decide_eq_true (by omega)
        have q2n : decide (x.length < y.length) = true := decide_eq_true hlt
        have HDY := Lib.hid (show ∃ b t, y.drop i = b :: t from ⟨_, _, List.drop_eq_getElem_cons (by have := HIX.out; omega)⟩)
        clear hlt
        go_wp2
        go_ret
        obtain ⟨b, t, hbt⟩ := HDY.out
        exact ⟨by rw [HR2.out, ← HC.out, HDX.out, hbt] <;> rfl, (HG3.out.trans HG.out).below⟩
      · have q2 : decide ((x.length : Int) < (y.length : Int)) = false := decide_eq_false (by omega)
        have q2n : decide (x.length < y.length) = false := decide_eq_false hlt
        have HDY := Lib.hid (show y.drop i = [] from List.drop_of_length_le (by have := HIX.out; omega))
        clear hlt
        go_wp2
        go_ret
        exact ⟨by rw [HR2.out, ← HC.out, HDX.out, HDY.out] <;> rfl, (HG3.out.trans HG.out).below⟩
    have q1 : decide ((i : Int) < (x.length : Int)) = true := decide_eq_true (by omega)
    have q1n : decide (i < x.length) = true := decide_eq_true hi
    have HDX := Lib.hid (List.drop_eq_getElem_cons hi)
    by_cases hj : i < y.length
    rotate_left
    · have q2 : decide ((i : Int) < (y.length : Int)) = false := decide_eq_false (by omega)
      have q2n : decide (i < y.length) = false := decide_eq_false hj
      have q3 : decide ((x.length : Int) < (y.length : Int)) = false := decide_eq_false (by omega)
      have q3n : decide (x.length < y.length) = false := decide_eq_false (by omega)
      have HDY := Lib.hid (show y.drop i = [] from List.drop_of_length_le (by omega))
      generalize x[i] = xi at HDX
      clear hi hj
      go_wp2
      go_ret
      exact ⟨by rw [HR2.out, ← HC.out, HDX.out, HDY.out] <;> rfl, (HG3.out.trans HG.out).below⟩
    have q2 : decide ((i : Int) < (y.length : Int)) = true := decide_eq_true (by omega)
    have q2n : decide (i < y.length) = true := decide_eq_true hj
    have HDY := Lib.hid (List.drop_eq_getElem_cons hj)
    have p1 : (0 ≤ (i : Int)) = True := eq_true (by omega)
    have p2 : ((i : Int) < (x.length : Int)) = True := eq_true (by omega)
    have p3 : ((i : Int) < (y.length : Int)) = True := eq_true (by omega)
    obtain ⟨ad, hA, hz⟩ := txt_at C3.out hi
    clear hz
    cases hA
    obtain ⟨ae, hA, hz⟩ := txt_at D3.out hj
    clear hz
    cases hA
    have CX := Lib.hid (fun w' (hb : Grw w3 w') => (show w'.cell? (ad.add i) = some (.string x[i]) from by obtain ⟨a2, e, h⟩ := Txts.at C3.out hb.below hi; cases e; exact h))
    have CY := Lib.hid (fun w' (hb : Grw w3 w') => (show w'.cell? (ae.add i) = some (.string y[i]) from by obtain ⟨a2, e, h⟩ := Txts.at D3.out hb.below hj; cases e; exact h))
    obtain ⟨g0, rfl⟩ : ∃ g0, gk = g0 + 1 := ⟨gk - 1, by have := HI.out; omega⟩
    have HLT := Lib.hid (And.intro hi hj)
    generalize x[i] = xi at CX HDX
    generalize y[i] = yi at CY HDY
    clear hi hj
    have hcc : cmpL (x.drop i) (y.drop i) = if cmpS xi yi ≠ 0 then cmpS xi yi else cmpL (x.drop (i + 1)) (y.drop (i + 1)) := by rw [HDX.out, HDY.out]; rfl
    have HCC := Lib.hid hcc
    clear hcc
    by_cases he : xi = yi
    · have n1 : (xi.toList != yi.toList) = false := by rw [he]; simp
      have n2 : (xi.toList == yi.toList) = true := by rw [he]; simp
      have HE := Lib.hid (show cmpS xi yi = 0 by rw [he]; exact ordS.self _)
      clear he
      go_upto_region 8 with fail
      refine start_ (n := 9) (S := fun w' => w'.cell? (ad.add i) = some (.string xi) ∧ w'.cell? (ae.add i) = some (.string yi)) (ds := []) #[false, false, false, false, false, false, false, false, false] (by kernel_rfl) rfl rfl ⟨CX.out _ HG.out.drew, CY.out _ HG.out.drew⟩ (fun hHeld => ?_)
      have HG2 := Aside0.mk HG.out.drew
      clear HG
      have HG := HG2
      clear HG2
      generalize World.drew _ = wd at HG hHeld ⊢
      refine pure_ (i := 0) (N := some 44) (v := ?_) (a' := ?_) #[true, false, false, false, false, false, false, false, false] rfl rfl (by kernel_rfl) (fun _ _ _ h => h) (Or.inl ⟨by rfl, ?_⟩) ?_ ?_
      rotate_left
      · intro w'
        go_simp
        with_reducible rfl
      rotate_left
      · simp only [Act.put, List.setIfInBounds_toArray, List.set_cons_zero, List.set_cons_succ, i64_w, i32_w]
        rfl
      refine pure_ (i := 1) (N := some 45) (v := ?_) (a' := ?_) #[true, true, false, false, false, false, false, false, false] rfl rfl (by kernel_rfl) (fun _ _ _ h => h) (Or.inl ⟨by rfl, ?_⟩) ?_ ?_
      rotate_left
      · intro w'
        go_simp
        with_reducible rfl
      rotate_left
      · simp only [Act.put, List.setIfInBounds_toArray, List.set_cons_zero, List.set_cons_succ, i64_w, i32_w]
        rfl
      refine pure_ (i := 2) (N := some 46) (v := ?_) (a' := ?_) #[true, true, true, false, false, false, false, false, false] rfl rfl (by kernel_rfl) (fun _ _ _ h => h) (Or.inl ⟨by rfl, ?_⟩) ?_ ?_
      rotate_left
      · intro w'
        go_simp
        with_reducible rfl
      rotate_left
      · simp only [Act.put, List.setIfInBounds_toArray, List.set_cons_zero, List.set_cons_succ, i64_w, i32_w]
        rfl
      refine take_ (i := 3) (N := some 47) (v := ?_) (a' := ?_) #[true, true, true, true, false, false, false, false, false] rfl rfl (by kernel_rfl) (fun _ _ _ h => h) (Or.inl ⟨by rfl, ?_⟩) hHeld ?_ ?_
      rotate_left
      · rintro w' ⟨s0, s1⟩
        go_simp
        with_reducible rfl
      rotate_left
      · simp only [Act.put, List.setIfInBounds_toArray, List.set_cons_zero, List.set_cons_succ, i64_w, i32_w]
        rfl
      refine pure_ (i := 4) (N := some 48) (v := ?_) (a' := ?_) #[true, true, true, true, true, false, false, false, false] rfl rfl (by kernel_rfl) (fun _ _ _ h => h) (Or.inl ⟨by rfl, ?_⟩) ?_ ?_
      rotate_left
      · intro w'
        go_simp
        with_reducible rfl
      rotate_left
      · simp only [Act.put, List.setIfInBounds_toArray, List.set_cons_zero, List.set_cons_succ, i64_w, i32_w]
        rfl
      refine pure_ (i := 5) (N := some 49) (v := ?_) (a' := ?_) #[true, true, true, true, true, true, false, false, false] rfl rfl (by kernel_rfl) (fun _ _ _ h => h) (Or.inl ⟨by rfl, ?_⟩) ?_ ?_
      rotate_left
      · intro w'
        go_simp
        with_reducible rfl
      rotate_left
      · simp only [Act.put, List.setIfInBounds_toArray, List.set_cons_zero, List.set_cons_succ, i64_w, i32_w]
        rfl
      refine pure_ (i := 6) (N := some 50) (v := ?_) (a' := ?_) #[true, true, true, true, true, true, true, false, false] rfl rfl (by kernel_rfl) (fun _ _ _ h => h) (Or.inl ⟨by rfl, ?_⟩) ?_ ?_
      rotate_left
      · intro w'
        go_simp
        with_reducible rfl
      rotate_left
      · simp only [Act.put, List.setIfInBounds_toArray, List.set_cons_zero, List.set_cons_succ, i64_w, i32_w]
        rfl
      refine take_ (i := 7) (N := some 51) (v := ?_) (a' := ?_) #[true, true, true, true, true, true, true, true, false] rfl rfl (by kernel_rfl) (fun _ _ _ h => h) (Or.inl ⟨by rfl, ?_⟩) hHeld ?_ ?_
      rotate_left
      · rintro w' ⟨s0, s1⟩
        go_simp
        with_reducible rfl
      rotate_left
      · simp only [Act.put, List.setIfInBounds_toArray, List.set_cons_zero, List.set_cons_succ, i64_w, i32_w]
        rfl
      refine pure_ (i := 8) (N := some 52) (v := ?_) (a' := ?_) #[true, true, true, true, true, true, true, true, true] rfl rfl (by kernel_rfl) (fun _ _ _ h => h) (Or.inl ⟨by rfl, ?_⟩) ?_ ?_
      rotate_left
      · intro w'
        go_simp
        with_reducible rfl
      rotate_left
      · simp only [Act.put, List.setIfInBounds_toArray, List.set_cons_zero, List.set_cons_succ, i64_w, i32_w]
        rfl
      refine done_ (by kernel_rfl) ?_
      clear hHeld
      go_wp2
      go_roundg g0
      case measure => omega
      case rel => exact ⟨i + 1, congrArg (Value.int .i64) (by rw [w64 i (by have := HLT.out.1; have := HLX.out; omega)]), ⟨by have := HI.out; omega⟩, ⟨by have := HLT.out.2; omega⟩, ⟨by rw [← HC.out, HCC.out, if_neg (by simp [HE.out])]⟩, HG⟩
    · have n2 : (xi.toList == yi.toList) = false := by rw [toList_beq, Bool.eq_false_iff, Ne, ba_beq]; exact he
      have n1 : (xi.toList != yi.toList) = true := by rw [bne_iff_ne]; intro h; exact he ((ba_iff _ _).1 h)
      have HE := Lib.hid (show cmpS xi yi ≠ 0 from fun h => he (cmpS_zero h))
      clear he
      obtain ⟨q, hq⟩ : ∃ q, q = Op.bytesLess xi.toList yi.toList := ⟨_, rfl⟩
      have hq2 := hq.symm
      have HQ := Lib.hid hq
      clear hq
      go_upto_region 8 with fail
      refine start_ (n := 9) (S := fun w' => w'.cell? (ad.add i) = some (.string xi) ∧ w'.cell? (ae.add i) = some (.string yi)) (ds := []) #[false, false, false, false, false, false, false, false, false] (by kernel_rfl) rfl rfl ⟨CX.out _ HG.out.drew, CY.out _ HG.out.drew⟩ (fun hHeld => ?_)
      have HG2 := Aside0.mk HG.out.drew
      clear HG
      have HG := HG2
      clear HG2
      generalize World.drew _ = wd at HG hHeld ⊢
      refine pure_ (i := 0) (N := some 44) (v := ?_) (a' := ?_) #[true, false, false, false, false, false, false, false, false] rfl rfl (by kernel_rfl) (fun _ _ _ h => h) (Or.inl ⟨by rfl, ?_⟩) ?_ ?_
      rotate_left
      · intro w'
        go_simp
        with_reducible rfl
      rotate_left
      · simp only [Act.put, List.setIfInBounds_toArray, List.set_cons_zero, List.set_cons_succ, i64_w, i32_w]
        rfl
      refine pure_ (i := 1) (N := some 45) (v := ?_) (a' := ?_) #[true, true, false, false, false, false, false, false, false] rfl rfl (by kernel_rfl) (fun _ _ _ h => h) (Or.inl ⟨by rfl, ?_⟩) ?_ ?_
      rotate_left
      · intro w'
        go_simp
        with_reducible rfl
      rotate_left
      · simp only [Act.put, List.setIfInBounds_toArray, List.set_cons_zero, List.set_cons_succ, i64_w, i32_w]
        rfl
      refine pure_ (i := 2) (N := some 46) (v := ?_) (a' := ?_) #[true, true, true, false, false, false, false, false, false] rfl rfl (by kernel_rfl) (fun _ _ _ h => h) (Or.inl ⟨by rfl, ?_⟩) ?_ ?_
      rotate_left
      · intro w'
        go_simp
        with_reducible rfl
      rotate_left
      · simp only [Act.put, List.setIfInBounds_toArray, List.set_cons_zero, List.set_cons_succ, i64_w, i32_w]
        rfl
      refine take_ (i := 3) (N := some 47) (v := ?_) (a' := ?_) #[true, true, true, true, false, false, false, false, false] rfl rfl (by kernel_rfl) (fun _ _ _ h => h) (Or.inl ⟨by rfl, ?_⟩) hHeld ?_ ?_
      rotate_left
      · rintro w' ⟨s0, s1⟩
        go_simp
        with_reducible rfl
      rotate_left
      · simp only [Act.put, List.setIfInBounds_toArray, List.set_cons_zero, List.set_cons_succ, i64_w, i32_w]
        rfl
      refine pure_ (i := 4) (N := some 48) (v := ?_) (a' := ?_) #[true, true, true, true, true, false, false, false, false] rfl rfl (by kernel_rfl) (fun _ _ _ h => h) (Or.inl ⟨by rfl, ?_⟩) ?_ ?_
      rotate_left
      · intro w'
        go_simp
        with_reducible rfl
      rotate_left
      · simp only [Act.put, List.setIfInBounds_toArray, List.set_cons_zero, List.set_cons_succ, i64_w, i32_w]
        rfl
      refine pure_ (i := 5) (N := some 49) (v := ?_) (a' := ?_) #[true, true, true, true, true, true, false, false, false] rfl rfl (by kernel_rfl) (fun _ _ _ h => h) (Or.inl ⟨by rfl, ?_⟩) ?_ ?_
      rotate_left
      · intro w'
        go_simp
        with_reducible rfl
      rotate_left
      · simp only [Act.put, List.setIfInBounds_toArray, List.set_cons_zero, List.set_cons_succ, i64_w, i32_w]
        rfl
      refine pure_ (i := 6) (N := some 50) (v := ?_) (a' := ?_) #[true, true, true, true, true, true, true, false, false] rfl rfl (by kernel_rfl) (fun _ _ _ h => h) (Or.inl ⟨by rfl, ?_⟩) ?_ ?_
      rotate_left
      · intro w'
        go_simp
        with_reducible rfl
      rotate_left
      · simp only [Act.put, List.setIfInBounds_toArray, List.set_cons_zero, List.set_cons_succ, i64_w, i32_w]
        rfl
      refine take_ (i := 7) (N := some 51) (v := ?_) (a' := ?_) #[true, true, true, true, true, true, true, true, false] rfl rfl (by kernel_rfl) (fun _ _ _ h => h) (Or.inl ⟨by rfl, ?_⟩) hHeld ?_ ?_
      rotate_left
      · rintro w' ⟨s0, s1⟩
        go_simp
        with_reducible rfl
      rotate_left
      · simp only [Act.put, List.setIfInBounds_toArray, List.set_cons_zero, List.set_cons_succ, i64_w, i32_w]
        rfl
      refine pure_ (i := 8) (N := some 52) (v := ?_) (a' := ?_) #[true, true, true, true, true, true, true, true, true] rfl rfl (by kernel_rfl) (fun _ _ _ h => h) (Or.inl ⟨by rfl, ?_⟩) ?_ ?_
      rotate_left
      · intro w'
        go_simp
        with_reducible rfl
      rotate_left
      · simp only [Act.put, List.setIfInBounds_toArray, List.set_cons_zero, List.set_cons_succ, i64_w, i32_w]
        rfl
      refine done_ (by kernel_rfl) ?_
      clear hHeld
      go_upto_region 9 with fail
      refine start_ (n := 10) (S := fun w' => w'.cell? (ad.add i) = some (.string xi) ∧ w'.cell? (ae.add i) = some (.string yi)) (ds := []) #[false, false, false, false, false, false, false, false, false, false] (by kernel_rfl) rfl rfl ⟨CX.out _ HG.out.drew, CY.out _ HG.out.drew⟩ (fun hHeld => ?_)
      have HG2 := Aside0.mk HG.out.drew
      clear HG
      have HG := HG2
      clear HG2
      generalize World.drew _ = wd at HG hHeld ⊢
      refine pure_ (i := 0) (N := some 53) (v := ?_) (a' := ?_) #[true, false, false, false, false, false, false, false, false, false] rfl rfl (by kernel_rfl) (fun _ _ _ h => h) (Or.inl ⟨by rfl, ?_⟩) ?_ ?_
      rotate_left
      · intro w'
        go_simp
        with_reducible rfl
      rotate_left
      · simp only [Act.put, List.setIfInBounds_toArray, List.set_cons_zero, List.set_cons_succ, i64_w, i32_w]
        rfl
      refine pure_ (i := 1) (N := some 54) (v := ?_) (a' := ?_) #[true, true, false, false, false, false, false, false, false, false] rfl rfl (by kernel_rfl) (fun _ _ _ h => h) (Or.inl ⟨by rfl, ?_⟩) ?_ ?_
      rotate_left
      · intro w'
        go_simp
        with_reducible rfl
      rotate_left
      · simp only [Act.put, List.setIfInBounds_toArray, List.set_cons_zero, List.set_cons_succ, i64_w, i32_w]
        rfl
      refine pure_ (i := 2) (N := some 55) (v := ?_) (a' := ?_) #[true, true, true, false, false, false, false, false, false, false] rfl rfl (by kernel_rfl) (fun _ _ _ h => h) (Or.inl ⟨by rfl, ?_⟩) ?_ ?_
      rotate_left
      · intro w'
        go_simp
        with_reducible rfl
      rotate_left
      · simp only [Act.put, List.setIfInBounds_toArray, List.set_cons_zero, List.set_cons_succ, i64_w, i32_w]
        rfl
      refine take_ (i := 3) (N := some 56) (v := ?_) (a' := ?_) #[true, true, true, true, false, false, false, false, false, false] rfl rfl (by kernel_rfl) (fun _ _ _ h => h) (Or.inl ⟨by rfl, ?_⟩) hHeld ?_ ?_
      rotate_left
      · rintro w' ⟨s0, s1⟩
        go_simp
        with_reducible rfl
      rotate_left
      · simp only [Act.put, List.setIfInBounds_toArray, List.set_cons_zero, List.set_cons_succ, i64_w, i32_w]
        rfl
      refine pure_ (i := 4) (N := some 57) (v := ?_) (a' := ?_) #[true, true, true, true, true, false, false, false, false, false] rfl rfl (by kernel_rfl) (fun _ _ _ h => h) (Or.inl ⟨by rfl, ?_⟩) ?_ ?_
      rotate_left
      · intro w'
        go_simp
        with_reducible rfl
      rotate_left
      · simp only [Act.put, List.setIfInBounds_toArray, List.set_cons_zero, List.set_cons_succ, i64_w, i32_w]
        rfl
      refine pure_ (i := 5) (N := some 58) (v := ?_) (a' := ?_) #[true, true, true, true, true, true, false, false, false, false] rfl rfl (by kernel_rfl) (fun _ _ _ h => h) (Or.inl ⟨by rfl, ?_⟩) ?_ ?_
      rotate_left
      · intro w'
        go_simp
        with_reducible rfl
      rotate_left
      · simp only [Act.put, List.setIfInBounds_toArray, List.set_cons_zero, List.set_cons_succ, i64_w, i32_w]
        rfl
      refine pure_ (i := 6) (N := some 59) (v := ?_) (a' := ?_) #[true, true, true, true, true, true, true, false, false, false] rfl rfl (by kernel_rfl) (fun _ _ _ h => h) (Or.inl ⟨by rfl, ?_⟩) ?_ ?_
      rotate_left
      · intro w'
        go_simp
        with_reducible rfl
      rotate_left
      · simp only [Act.put, List.setIfInBounds_toArray, List.set_cons_zero, List.set_cons_succ, i64_w, i32_w]
        rfl
      refine take_ (i := 7) (N := some 60) (v := ?_) (a' := ?_) #[true, true, true, true, true, true, true, true, false, false] rfl rfl (by kernel_rfl) (fun _ _ _ h => h) (Or.inl ⟨by rfl, ?_⟩) hHeld ?_ ?_
      rotate_left
      · rintro w' ⟨s0, s1⟩
        go_simp
        with_reducible rfl
      rotate_left
      · simp only [Act.put, List.setIfInBounds_toArray, List.set_cons_zero, List.set_cons_succ, i64_w, i32_w]
        rfl
      refine pure_ (i := 8) (N := some 61) (v := ?_) (a' := ?_) #[true, true, true, true, true, true, true, true, true, false] rfl rfl (by kernel_rfl) (fun _ _ _ h => h) (Or.inl ⟨by rfl, ?_⟩) ?_ ?_
      rotate_left
      · intro w'
        go_simp
        with_reducible rfl
      rotate_left
      · simp only [Act.put, List.setIfInBounds_toArray, List.set_cons_zero, List.set_cons_succ, i64_w, i32_w]
        rfl
      refine pure_ (i := 9) (N := some 4) (v := ?_) (a' := ?_) #[true, true, true, true, true, true, true, true, true, true] rfl rfl (by kernel_rfl) (fun _ _ _ h => h) (Or.inl ⟨by rfl, ?_⟩) ?_ ?_
      rotate_left
      · intro w'
        go_simp
        with_reducible rfl
      rotate_left
      · simp only [Act.put, List.setIfInBounds_toArray, List.set_cons_zero, List.set_cons_succ, i64_w, i32_w]
        rfl
      refine done_ (by kernel_rfl) ?_
      clear hHeld
      go_wp2
      go_ret
      refine ⟨?_, (HG3.out.trans HG.out).below⟩
      have : res = q := by
        rw [HR2.out, ← HC.out, HCC.out, if_pos HE.out, HQ.out, Bool.eq_iff_iff, decide_eq_true_eq, cmpS_lt]
      rw [this] <;> rfl
end Go.Proofs.YtphddbijdfmpjaaDoor.Q
namespace Go.Proofs.YtphddbijdfmpjaaDoor.Q
open Go.RowKit Go.MapRaw Go.Proofs.YtphddbijdfmpjaaDoorW.PrintWords Go.Proofs.YtphddbijdfmpjaaDoorW.PrintLast Go.Proofs.YtphddbijdfmpjaaDoor.Wr
open Go.ChangeMaps (setBlock)
set_option linter.unusedVariables false
set_option linter.unusedSimpArgs false
def ofS : Tab → List Bnd → Option Tab × Int
  | M, [] => (some M, 0)
  | M, x :: r => if (getA (x.path, x.name) M).isSome = true ∧ formedB x = true then (none, 190) else if setE M x = 0 then ofS (setM M x) r else (none, setE M x)
def OfSays (w : World) (r : Option Tab × Int) (e : Ending) (w' : World) : Prop :=
  ∃ v, e = .returned (.tuple #[v, .int .i64 r.2]) ∧ ((r.1 = none ∧ v = .pointer none) ∨ ∃ M t b, r.1 = some M ∧ v = .pointer (some ⟨t, 0, none⟩) ∧ TB w' t b M ∧ w.heap.size ≤ t ∧ w.heap.size ≤ b) ∧ Below w.heap.size w w'
theorem set_of {w w' : World} {t b : Nat} {M : Tab} {bd : Bnd} (hG : Glob w) (hT : TB w' t b M) (hB : Below w.heap.size w w') (hb : w.heap.size ≤ b) (hM : M.length ≤ 2513169434843) :
    Calls Tryd.prog 20 #[.pointer (some ⟨t, 0, none⟩), .agg #[.string bd.path, .string bd.name, .string bd.subject, .int .i64 bd.verb]] w' fun e w2 => e = .returned (.int .i64 (setE M bd)) ∧ TB w2 t b (setM M bd) ∧ Below w.heap.size w w2 := by
  refine (set_ok w' t b M bd hT (hG.below hB) hM).mono ?_
  rintro e w2 ⟨rfl, h1, h2⟩
  exact ⟨rfl, h1, hB.trans (h2.belowB hb hB.size)⟩
set_option maxRecDepth 100000 in
set_option maxHeartbeats 16000000 in
theorem of_ok (A : Option Addr) (c : Nat) (l : List Bnd) (w : World) (hr : k27.C w A l.length l) (hG : Glob w) (hl : l.length ≤ 2513169434843) :
    Calls Tryd.prog 14 #[.slice A l.length c] w fun e w' => OfSays w (ofS [] l) e w' := by
  have hu27 := Tryd.underlying27
  have hu70 := Tryd.underlying70
  obtain ⟨res, hres⟩ : ∃ res, res = ofS [] l := ⟨_, rfl⟩
  rw [← hres]
  have HRES := Lib.hid hres
  have HR := Aside0.mk hr
  have NEW := Lib.hid (newT_ok w)
  have GL := Lib.hid hG
  have HLL := Lib.hid hl
  clear hr hG hl hres
  go_enter Tryd.func14, Tryd.ntmps14
  go_upto_region 3 with (go_at_call 29; refine NEW.out.mono ?_; rintro e w1 ⟨t, b, rfl, hT, ht, hb, hb1⟩; have B1 := Aside0.mk hb1; have T1 := Aside0.mk hT; have HTB := Lib.hid (And.intro ht hb); clear hT ht hb hb1)
  clear NEW
  go_loopg [13] l.length (fun g v13 wr => ∃ (i : Nat) (M : Tab), v13 = .int .i64 (i : Int) ∧ Aside0 (i + g = l.length) ∧ Aside0 (M.length ≤ i) ∧ Aside0 (ofS M (l.drop i) = res) ∧ Aside0 (TB wr t b M) ∧ Aside0 (Below w.heap.size w wr))
  case atStart => exact ⟨0, [], rfl, ⟨by omega⟩, ⟨by simp⟩, ⟨by rw [List.drop_zero]; exact HRES.out.symm⟩, T1, B1⟩
  case round =>
    clear T1 B1
    obtain ⟨i, M, rfl, HI, HM, HO, HT, HB⟩ := hrel
    by_cases hi : i < l.length
    rotate_left
    · have q1 : decide ((i : Int) < (l.length : Int)) = false := decide_eq_false (by omega)
      have q1n : decide (i < l.length) = false := decide_eq_false hi
      have HD := Lib.hid (show l.drop i = [] from List.drop_of_length_le (by omega))
      clear hi
      go_wp2
      go_ret2
      have hres : res = (some M, 0) := by rw [← HO.out, HD.out]; rfl
      exact ⟨_, by rw [hres] <;> rfl, .inr ⟨M, t, b, by rw [hres], rfl, HT.out, HTB.out.1, HTB.out.2⟩, HB.out⟩
    have q1 : decide ((i : Int) < (l.length : Int)) = true := decide_eq_true (by omega)
    have q1n : decide (i < l.length) = true := decide_eq_true hi
    have p1 : (0 ≤ (i : Int)) = True := eq_true (by omega)
    have p2 : ((i : Int) < (l.length : Int)) = True := eq_true (by omega)
    obtain ⟨ad, hA, hx0, hx⟩ := bnd_at (Kd.C_below HR.out HB.out) i hi
    cases hA
    have HDX := Lib.hid (List.drop_eq_getElem_cons hi)
    obtain ⟨g0, rfl⟩ : ∃ g0, gk = g0 + 1 := ⟨gk - 1, by have := HI.out; omega⟩
    have HLT := Lib.hid hi
    have HMM := Lib.hid (show M.length ≤ 2513169434843 by have := HM.out; have := HLL.out; omega)
    generalize l[i] = x at hx0 hx HDX
    obtain ⟨bp, bn, bs, bv⟩ := x
    have hx1 := hx 1 (.string bn) (by decide) rfl
    have hx2 := hx 2 (.string bs) (by decide) rfl
    have hx3 := hx 3 (.int .i64 bv) (by decide) rfl
    clear hi hx
    have hst : ofS M (l.drop i) = if (getA (bp, bn) M).isSome = true ∧ formedB ⟨bp, bn, bs, bv⟩ = true then (none, 190) else if setE M ⟨bp, bn, bs, bv⟩ = 0 then ofS (setM M ⟨bp, bn, bs, bv⟩) (l.drop (i + 1)) else (none, setE M ⟨bp, bn, bs, bv⟩) := by rw [HDX.out]; rfl
    have HST := Lib.hid hst
    have hlk := fun w' (h : Holds eK eV w' b M) => h.lookup kind_pl (fun a => ⟨a, rfl⟩) eqPl_iff 66 27 Tryd.underlying66 (bp, bn) _ (Tryd.zeroValue27 w') true
    obtain ⟨cc, hc⟩ : ∃ cc : Bnd, ∀ w', Holds eK eV w' b M → (Instr.lookup 66 (.map (some b)) (.agg #[.string bp, .string bn]) true).run Tryd.prog w' = .ok (.tuple #[.agg #[.string cc.path, .string cc.name, .string cc.subject, .int .i64 cc.verb], .bool (getA (bp, bn) M).isSome]) w' := by
      refine ⟨(getA (bp, bn) M).getD ⟨⟨#[]⟩, ⟨#[]⟩, ⟨#[]⟩, 0⟩, fun w' h => (hlk w' h).trans ?_⟩
      cases getA (bp, bn) M <;> rfl
    obtain ⟨there, hth⟩ : ∃ z, z = (getA (bp, bn) M).isSome := ⟨_, rfl⟩
    rw [← hth] at hc
    have HC := Lib.hid hc
    have HTH := Lib.hid hth
    clear hst hlk hc hth
    obtain ⟨cp, cn, cs, cv⟩ := cc
    go_upto_region 5 with fail
    have hal := (Below.refl wr.heap.size wr).alloc (Nat.le_refl _) (.cells #[.string bp, .string bn, .string bs, .int .i64 bv] 27)
    have T3 := Aside0.mk (HT.out.below hal)
    have B3 := Aside0.mk (HB.out.trans (below_lower hal HB.out.size))
    have N3 := Aside0.mk (blk_new wr (.cells #[.string bp, .string bn, .string bs, .int .i64 bv] 27))
    obtain ⟨pp, hpp⟩ : ∃ pp, pp = wr.heap.size := ⟨_, rfl⟩
    rw [← hpp] at N3 ⊢
    clear hal hpp hx0 hx1 hx2 hx3 p1 p2 q1 q1n HT HB
    generalize wr.alloc _ = w3 at T3 B3 N3 ⊢
    refine start_ (n := 16) (S := fun w' => w'.cell? ⟨t, 0, none⟩ = some (.map (some b)) ∧ w'.cell? ⟨pp, 0, none⟩ = some (.string bp) ∧ w'.cell? ⟨pp, 1, none⟩ = some (.string bn) ∧ (Instr.lookup 66 (.map (some b)) (.agg #[.string bp, .string bn]) true).run Tryd.prog w' = .ok (.tuple #[.agg #[.string cp, .string cn, .string cs, .int .i64 cv], .bool there]) w') (ds := []) #[false, false, false, false, false, false, false, false, false, false, false, false, false, false, false, false] (by kernel_rfl) rfl rfl ⟨T3.out.cell, (blk_cell N3.out 0).trans rfl, (blk_cell N3.out 1).trans rfl, HC.out _ T3.out.holds⟩ (fun hHeld => ?_)
    have hwd := drew_below w3
    have T4 := Aside0.mk (TB.below T3.out hwd)
    have N4 := Aside0.mk (blk_below N3.out hwd)
    have B4 := Aside0.mk (below_drew1 B3.out)
    clear hwd T3 N3 B3
    generalize w3.drew = w4 at T4 N4 B4 hHeld ⊢
    refine pure_ (i := 0) (N := some 18) (v := ?_) (a' := ?_) #[true, false, false, false, false, false, false, false, false, false, false, false, false, false, false, false] rfl rfl (by kernel_rfl) (fun _ _ _ h => h) (Or.inl ⟨by rfl, ?_⟩) ?_ ?_
    rotate_left
    · intro w'
      go_simp
      with_reducible rfl
    rotate_left
    · simp only [Act.put, List.setIfInBounds_toArray, List.set_cons_zero, List.set_cons_succ, i64_w, i32_w]
      rfl
    refine pure_ (i := 1) (N := some 19) (v := ?_) (a' := ?_) #[true, true, false, false, false, false, false, false, false, false, false, false, false, false, false, false] rfl rfl (by kernel_rfl) (fun _ _ _ h => h) (Or.inl ⟨by rfl, ?_⟩) ?_ ?_
    rotate_left
    · intro w'
      go_simp
      with_reducible rfl
    rotate_left
    · simp only [Act.put, List.setIfInBounds_toArray, List.set_cons_zero, List.set_cons_succ, i64_w, i32_w]
      rfl
    refine pure_ (i := 2) (N := some 20) (v := ?_) (a' := ?_) #[true, true, true, false, false, false, false, false, false, false, false, false, false, false, false, false] rfl rfl (by kernel_rfl) (fun _ _ _ h => h) (Or.inl ⟨by rfl, ?_⟩) ?_ ?_
    rotate_left
    · intro w'
      go_simp
      with_reducible rfl
    rotate_left
    · simp only [Act.put, List.setIfInBounds_toArray, List.set_cons_zero, List.set_cons_succ, i64_w, i32_w]
      rfl
    refine take_ (i := 3) (N := some 21) (v := ?_) (a' := ?_) #[true, true, true, true, false, false, false, false, false, false, false, false, false, false, false, false] rfl rfl (by kernel_rfl) (fun _ _ _ h => h) (Or.inl ⟨by rfl, ?_⟩) hHeld ?_ ?_
    rotate_left
    · rintro w' ⟨s0, s1, s2, s3⟩
      go_simp
      with_reducible rfl
    rotate_left
    · simp only [Act.put, List.setIfInBounds_toArray, List.set_cons_zero, List.set_cons_succ, i64_w, i32_w]
      rfl
    refine pure_ (i := 4) (N := some 22) (v := ?_) (a' := ?_) #[true, true, true, true, true, false, false, false, false, false, false, false, false, false, false, false] rfl rfl (by kernel_rfl) (fun _ _ _ h => h) (Or.inl ⟨by rfl, ?_⟩) ?_ ?_
    rotate_left
    · intro w'
      go_simp
      with_reducible rfl
    rotate_left
    · simp only [Act.put, List.setIfInBounds_toArray, List.set_cons_zero, List.set_cons_succ, i64_w, i32_w]
      rfl
    refine take_ (i := 5) (N := some 23) (v := ?_) (a' := ?_) #[true, true, true, true, true, true, false, false, false, false, false, false, false, false, false, false] rfl rfl (by kernel_rfl) (fun _ _ _ h => h) (Or.inl ⟨by rfl, ?_⟩) hHeld ?_ ?_
    rotate_left
    · rintro w' ⟨s0, s1, s2, s3⟩
      go_simp
      with_reducible rfl
    rotate_left
    · simp only [Act.put, List.setIfInBounds_toArray, List.set_cons_zero, List.set_cons_succ, i64_w, i32_w]
      rfl
    refine pure_ (i := 6) (N := some 24) (v := ?_) (a' := ?_) #[true, true, true, true, true, true, true, false, false, false, false, false, false, false, false, false] rfl rfl (by kernel_rfl) (fun _ _ _ h => h) (Or.inl ⟨by rfl, ?_⟩) ?_ ?_
    rotate_left
    · intro w'
      go_simp
      with_reducible rfl
    rotate_left
    · simp only [Act.put, List.setIfInBounds_toArray, List.set_cons_zero, List.set_cons_succ, i64_w, i32_w]
      rfl
    refine take_ (i := 7) (N := some 25) (v := ?_) (a' := ?_) #[true, true, true, true, true, true, true, true, false, false, false, false, false, false, false, false] rfl rfl (by kernel_rfl) (fun _ _ _ h => h) (Or.inl ⟨by rfl, ?_⟩) hHeld ?_ ?_
    rotate_left
    · rintro w' ⟨s0, s1, s2, s3⟩
      go_simp
      with_reducible rfl
    rotate_left
    · simp only [Act.put, List.setIfInBounds_toArray, List.set_cons_zero, List.set_cons_succ, i64_w, i32_w]
      rfl
    refine pure_ (i := 8) (N := some 26) (v := ?_) (a' := ?_) #[true, true, true, true, true, true, true, true, true, false, false, false, false, false, false, false] rfl rfl (by kernel_rfl) (fun _ _ _ h => h) (Or.inl ⟨by rfl, ?_⟩) ?_ ?_
    rotate_left
    · intro w'
      go_simp
      with_reducible rfl
    rotate_left
    · simp only [Act.put, List.setIfInBounds_toArray, List.set_cons_zero, List.set_cons_succ, i64_w, i32_w]
      rfl
    refine take_ (i := 9) (N := some 27) (v := ?_) (a' := ?_) #[true, true, true, true, true, true, true, true, true, true, false, false, false, false, false, false] rfl rfl (by kernel_rfl) (fun _ _ _ h => h) (Or.inl ⟨by rfl, ?_⟩) hHeld ?_ ?_
    rotate_left
    · rintro w' ⟨s0, s1, s2, s3⟩
      go_simp
      with_reducible rfl
    rotate_left
    · simp only [Act.put, List.setIfInBounds_toArray, List.set_cons_zero, List.set_cons_succ, i64_w, i32_w]
      rfl
    refine pure_ (i := 10) (N := some 17) (v := ?_) (a' := ?_) #[true, true, true, true, true, true, true, true, true, true, true, false, false, false, false, false] rfl rfl (by kernel_rfl) (fun _ _ _ h => h) (Or.inl ⟨by rfl, ?_⟩) ?_ ?_
    rotate_left
    · intro w'
      go_simp
      with_reducible rfl
    rotate_left
    · simp only [Act.put, List.setIfInBounds_toArray, List.set_cons_zero, List.set_cons_succ, i64_w, i32_w]
      rfl
    refine pure_ (i := 11) (N := some 28) (v := ?_) (a' := ?_) #[true, true, true, true, true, true, true, true, true, true, true, true, false, false, false, false] rfl rfl (by kernel_rfl) (fun _ _ _ h => h) (Or.inl ⟨by rfl, ?_⟩) ?_ ?_
    rotate_left
    · intro w'
      go_simp
      with_reducible rfl
    rotate_left
    · simp only [Act.put, List.setIfInBounds_toArray, List.set_cons_zero, List.set_cons_succ, i64_w, i32_w]
      rfl
    refine pure_ (i := 12) (N := some 29) (v := ?_) (a' := ?_) #[true, true, true, true, true, true, true, true, true, true, true, true, true, false, false, false] rfl rfl (by kernel_rfl) (fun _ _ _ h => h) (Or.inl ⟨by rfl, ?_⟩) ?_ ?_
    rotate_left
    · intro w'
      go_simp
      with_reducible rfl
    rotate_left
    · simp only [Act.put, List.setIfInBounds_toArray, List.set_cons_zero, List.set_cons_succ, i64_w, i32_w]
      rfl
    refine one_ (i := 13) (N := some 7) #[true, true, true, true, true, true, true, true, true, true, true, true, true, true, false, false] rfl rfl (by kernel_rfl) (by decide) (fun K hK => ?_)
    refine value_ (v := .pointer (some ⟨w4.heap.size, 0, none⟩)) (w1 := w4.alloc (.cells #[.string ⟨#[]⟩, .string ⟨#[]⟩, .string ⟨#[]⟩, .int .i64 0] 27)) (by rfl) rfl ?_ ?_
    · go_simp
    have hal5 := (Below.refl w4.heap.size w4).alloc (Nat.le_refl _) (.cells #[.string ⟨#[]⟩, .string ⟨#[]⟩, .string ⟨#[]⟩, .int .i64 0] 27)
    have T5 := Aside0.mk (TB.below T4.out hal5)
    have N5 := Aside0.mk (blk_below N4.out hal5)
    have B5 := Aside0.mk (B4.out.trans (below_lower hal5 B4.out.size))
    have Q5 := Aside0.mk (blk_new w4 (.cells #[.string ⟨#[]⟩, .string ⟨#[]⟩, .string ⟨#[]⟩, .int .i64 0] 27))
    have HQ := Lib.hid (show t < w4.heap.size ∧ b < w4.heap.size ∧ pp < w4.heap.size from ⟨T4.out.lt.1, T4.out.lt.2, blk_lt N4.out⟩)
    have HA := Lib.hid B4.out.size
    obtain ⟨qq, hqq⟩ : ∃ qq, qq = w4.heap.size := ⟨_, rfl⟩
    rw [← hqq] at Q5 HQ HA ⊢
    clear hal5 hqq T4 N4 B4
    generalize w4.alloc _ = w5 at T5 N5 B5 Q5 ⊢
    refine hK.out _ _ ⟨T5.out.cell, (blk_cell N5.out 0).trans rfl, (blk_cell N5.out 1).trans rfl, HC.out _ T5.out.holds⟩ (fun hHeld => ?_)
    clear hK K
    refine norm_ (a' := ?_) ?_ ?_
    rotate_left
    · show Act.put _ (some 7) _ = _
      simp only [Act.put, List.setIfInBounds_toArray, List.set_cons_zero, List.set_cons_succ, i64_w, i32_w]
      rfl
    refine one_ (i := 14) (N := none) #[true, true, true, true, true, true, true, true, true, true, true, true, true, true, true, false] rfl rfl (by kernel_rfl) (by decide) (fun K hK => ?_)
    have hf0 := blk_frozen Q5.out 0
    have hf1 := blk_frozen Q5.out 1
    have hf2 := blk_frozen Q5.out 2
    have hf3 := blk_frozen Q5.out 3
    have hcs0 := (blk_cell Q5.out 0).trans rfl
    have hcs1 := (blk_cell Q5.out 1).trans rfl
    have hcs2 := (blk_cell Q5.out 2).trans rfl
    have hcs3 := (blk_cell Q5.out 3).trans rfl
    refine skip_ (w1 := ?_) (by rfl) rfl ?_ ?_
    rotate_left
    · go_simp
      rfl
    have hbq := below_put4 (b0 := .string cp) (b1 := .string cn) (b2 := .string cs) (b3 := .int .i64 cv) (Below.refl qq w5) (Nat.le_refl qq)
    have T6 := Aside0.mk (T5.out.belowB hbq HQ.out.1 HQ.out.2.1)
    have N6 := Aside0.mk ((hbq.block _ HQ.out.2.2).trans N5.out)
    have B6 := Aside0.mk (B5.out.trans (below_lower hbq HA.out))
    clear hf0 hf1 hf2 hf3 hcs0 hcs1 hcs2 hcs3 hbq T5 N5 B5 Q5
    generalize World.setCell _ _ _ = w6 at T6 N6 B6 ⊢
    refine hK.out _ _ ⟨T6.out.cell, (blk_cell N6.out 0).trans rfl, (blk_cell N6.out 1).trans rfl, HC.out _ T6.out.holds⟩ (fun hHeld => ?_)
    clear hK K
    refine pure_ (i := 15) (N := some 8) (v := ?_) (a' := ?_) #[true, true, true, true, true, true, true, true, true, true, true, true, true, true, true, true] rfl rfl (by kernel_rfl) (fun _ _ _ h => h) (Or.inl ⟨by rfl, ?_⟩) ?_ ?_
    rotate_left
    · intro w'
      go_simp
      with_reducible rfl
    rotate_left
    · simp only [Act.put, List.setIfInBounds_toArray, List.set_cons_zero, List.set_cons_succ, i64_w, i32_w]
      rfl
    refine done_ (by kernel_rfl) ?_
    clear hHeld HC HQ HA
    have hd0 := (blk_cell N6.out 0).trans rfl
    have hd1 := (blk_cell N6.out 1).trans rfl
    have hd2 := (blk_cell N6.out 2).trans rfl
    have hd3 := (blk_cell N6.out 3).trans rfl
    have VC := Lib.hid (fun w' hG => valid_ok ⟨bp, bn, bs, bv⟩ w' hG)
    unfold eV at VC
    have SC := Lib.hid (fun w' hT hB => set_of (w := w) (w' := w') (t := t) (b := b) (M := M) (bd := ⟨bp, bn, bs, bv⟩) GL.out hT hB HTB.out.2 HMM.out)
    cases there with
    | true =>
      by_cases hf : formedB ⟨bp, bn, bs, bv⟩ = true
      · rw [if_pos hf] at VC
        have HF := Lib.hid hf
        clear hf
        go_wp2_with (go_at_call 33; refine (VC.out _ (GL.out.below B6.out)).mono ?_; rintro e wv ⟨rfl, hb⟩; have T6b := Aside0.mk (T6.out.below hb); have N6b := Aside0.mk (blk_below N6.out hb); have B6b := Aside0.mk (B6.out.trans (below_lower hb B6.out.size)); clear hb T6 N6 B6; have T6 := T6b; have N6 := N6b; have B6 := B6b; clear T6b N6b B6b; have hd0 := (blk_cell N6.out 0).trans rfl; have hd1 := (blk_cell N6.out 1).trans rfl; have hd2 := (blk_cell N6.out 2).trans rfl; have hd3 := (blk_cell N6.out 3).trans rfl)
        go_ret2
        have hres : res = (none, 190) := by rw [← HO.out, HST.out, if_pos ⟨HTH.out.symm, HF.out⟩]
        exact ⟨_, by rw [hres] <;> rfl, .inl ⟨by rw [hres], rfl⟩, B6.out⟩
      · rw [if_neg hf] at VC
        have HE := Lib.hid (show setE M ⟨bp, bn, bs, bv⟩ = 130 by unfold setE; rw [if_neg hf])
        have HF := Lib.hid hf
        rw [HE.out] at SC
        clear hf
        go_wp2_with (first | (go_at_call 33; refine (VC.out _ (GL.out.below B6.out)).mono ?_; rintro e wv ⟨rfl, hb⟩; have T6b := Aside0.mk (T6.out.below hb); have N6b := Aside0.mk (blk_below N6.out hb); have B6b := Aside0.mk (B6.out.trans (below_lower hb B6.out.size)); clear hb T6 N6 B6; have T6 := T6b; have N6 := N6b; have B6 := B6b; clear T6b N6b B6b; have hd0 := (blk_cell N6.out 0).trans rfl; have hd1 := (blk_cell N6.out 1).trans rfl; have hd2 := (blk_cell N6.out 2).trans rfl; have hd3 := (blk_cell N6.out 3).trans rfl) | (go_at_call 20; (with_reducible refine (SC.out _ T6.out B6.out).mono ?_); rintro e w7 ⟨rfl, hT, hB⟩; have T7 := Aside0.mk hT; have B7 := Aside0.mk hB; clear hT hB))
        go_ret2
        have hres : res = (none, 130) := by rw [← HO.out, HST.out, if_neg (fun h => HF.out h.2), HE.out, if_neg (by decide)]
        exact ⟨_, by rw [hres] <;> rfl, .inl ⟨by rw [hres], rfl⟩, B7.out⟩
    | false =>
      by_cases h0 : setE M ⟨bp, bn, bs, bv⟩ = 0
      · rw [h0] at SC
        have H0 := Lib.hid h0
        clear h0
        go_wp2_with (go_at_call 20; (with_reducible refine (SC.out _ T6.out B6.out).mono ?_); rintro e w7 ⟨rfl, hT, hB⟩; have T7 := Aside0.mk hT; have B7 := Aside0.mk hB; clear hT hB)
        go_roundg g0
        case measure => omega
        case rel => exact ⟨i + 1, setM M ⟨bp, bn, bs, bv⟩, congrArg (Value.int .i64) (by rw [w64 i (by have := HLT.out; have := HLL.out; omega)]), ⟨by have := HI.out; omega⟩, ⟨by have := HM.out; have := setM_len M ⟨bp, bn, bs, bv⟩; omega⟩, ⟨by rw [← HO.out, HST.out, if_neg (fun h => by have := HTH.out; rw [h.1] at this; cases this), if_pos H0.out]⟩, T7, B7⟩
      · obtain ⟨ee, hee⟩ : ∃ ee, ee = setE M ⟨bp, bn, bs, bv⟩ := ⟨_, rfl⟩
        rw [← hee] at SC h0
        have HEE := Lib.hid hee
        have e0 : (ee != 0) = true := bne_iff_ne.2 h0
        have H0 := Lib.hid h0
        clear h0 hee
        go_wp2_with (go_at_call 20; (with_reducible refine (SC.out _ T6.out B6.out).mono ?_); rintro e w7 ⟨rfl, hT, hB⟩; have T7 := Aside0.mk hT; have B7 := Aside0.mk hB; clear hT hB)
        go_ret2
        have hres : res = (none, ee) := by rw [← HO.out, HST.out, if_neg (fun h => by have := HTH.out; rw [h.1] at this; cases this), ← HEE.out, if_neg H0.out]
        exact ⟨_, by rw [hres] <;> rfl, .inl ⟨by rw [hres], rfl⟩, B7.out⟩
end Go.Proofs.YtphddbijdfmpjaaDoor.Q
namespace Go.Proofs.YtphddbijdfmpjaaDoor.Wr
open Go.RowKit Go.MapRaw Go.Proofs.YtphddbijdfmpjaaDoorW.PrintWords Go.Proofs.YtphddbijdfmpjaaDoorW.PrintLast Go.Proofs.YtphddbijdfmpjaaDoor.Q Go.Proofs.YtphddbijdfmpjaaDoor.Pl
set_option linter.unusedVariables false
set_option linter.unusedSimpArgs false
theorem cnt_put (q : ByteArray) (k : Key) (v : Bnd) : ∀ M : Tab, cnt q (putA k v M) = cnt q M + (if (getA k M).isSome = true then 0 else if k.1 = q then 1 else 0)
  | [] => by simp [putA, cnt, getA]
  | p :: r => by
    have ih := cnt_put q k v r
    unfold putA getA
    by_cases e : p.1 = k
    · rw [if_pos e, if_pos e]
      simp only [cnt, Option.isSome_some, if_true, e]
      omega
    · rw [if_neg e, if_neg e]
      simp only [cnt, ih]
      omega
theorem len_put (k : Key) (v : Bnd) : ∀ M : Tab, (putA k v M).length = M.length + (if (getA k M).isSome = true then 0 else 1)
  | [] => by simp [putA, getA]
  | p :: r => by
    have ih := len_put k v r
    unfold putA getA
    by_cases e : p.1 = k
    · rw [if_pos e, if_pos e]; simp
    · rw [if_neg e, if_neg e, List.length_cons, ih, List.length_cons]; omega
theorem cnt_del (q : ByteArray) (k : Key) : ∀ M : Tab, (getA k M).isSome = true → cnt q (delA k M) + (if k.1 = q then 1 else 0) = cnt q M
  | [], h => by simp [getA] at h
  | p :: r, h => by
    unfold delA
    by_cases e : p.1 = k
    · rw [if_pos e]
      simp only [cnt, e]
      omega
    · rw [if_neg e]
      have : getA k (p :: r) = getA k r := by rw [getA, if_neg e]
      rw [this] at h
      have ih := cnt_del q k r h
      simp only [cnt]
      omega
theorem len_del (k : Key) : ∀ M : Tab, (getA k M).isSome = true → (delA k M).length + 1 = M.length
  | [], h => by simp [getA] at h
  | p :: r, h => by
    unfold delA
    by_cases e : p.1 = k
    · rw [if_pos e]; rfl
    · rw [if_neg e]
      have : getA k (p :: r) = getA k r := by rw [getA, if_neg e]
      rw [this] at h
      have ih := len_del k r h
      simp only [List.length_cons]
      omega
theorem cnt_leave (q p : ByteArray) : ∀ M : Tab, cnt q (leaveM p M) = if q = p then 0 else cnt q M
  | [] => by simp [leaveM, cnt]
  | x :: r => by
    have ih := cnt_leave q p r
    unfold leaveM at ih ⊢
    rw [List.filter_cons]
    by_cases e : x.1.1 = p
    · rw [if_neg (by simp [e]), ih]
      by_cases h : q = p
      · rw [if_pos h, if_pos h]
      · rw [if_neg h, if_neg h]
        simp only [cnt]
        rw [if_neg (fun e2 => h (e2.symm.trans e))]
        omega
    · rw [if_pos (by simp [e])]
      simp only [cnt, ih]
      by_cases h : q = p
      · rw [if_pos h, if_pos h, if_neg (fun e2 => e (e2.trans h))]
      · rw [if_neg h, if_neg h]
structure TabIs (M : Tab) (has : Key → Prop) (n : ByteArray → Nat) (len : Nat) : Prop where
  nodup : (M.map (fun x => x.1)).Nodup
  keys : ∀ k, (getA k M).isSome = true ↔ has k
  count : ∀ q, cnt q M = n q
  size : M.length = len
theorem TabIs.nil : TabIs [] (fun _ => False) (fun _ => 0) 0 := ⟨by simp, fun k => by simp [getA], fun q => rfl, rfl⟩
theorem TabIs.same {M : Tab} {has has2 : Key → Prop} {n n2 : ByteArray → Nat} {l l2 : Nat} (h : TabIs M has n l) (h1 : ∀ k, has k ↔ has2 k) (h2 : ∀ q, n q = n2 q) (h3 : l = l2) : TabIs M has2 n2 l2 :=
  ⟨h.nodup, fun k => (h.keys k).trans (h1 k), fun q => (h.count q).trans (h2 q), h.size.trans h3⟩
theorem TabIs.swap {M : Tab} {has : Key → Prop} {n : ByteArray → Nat} {l : Nat} (h : TabIs M has n l) (b : Bnd) (hf : formedB b = true) (hn : has (b.path, b.name)) : setE M b = 0 ∧ TabIs (setM M b) has n l := by
  have hk : (getA (b.path, b.name) M).isSome = true := (h.keys _).2 hn
  have he : setE M b = 0 := by
    unfold setE
    rw [if_pos hf, if_neg (fun e => by have h1 := e.1; rw [Option.isNone_iff_eq_none] at h1; rw [h1] at hk; cases hk)]
  refine ⟨he, setM_nodup b h.nodup, fun k => ?_, fun q => ?_, ?_⟩
  · unfold setM
    rw [if_pos he, get_put]
    by_cases e : k = (b.path, b.name)
    · rw [if_pos e]; simp [e, hn]
    · rw [if_neg e, h.keys]
  · unfold setM
    rw [if_pos he, cnt_put, if_pos hk, h.count]; rfl
  · unfold setM
    rw [if_pos he, len_put, if_pos hk, h.size]; rfl
theorem TabIs.drop {M : Tab} {has : Key → Prop} {n : ByteArray → Nat} {l : Nat} (h : TabIs M has n l) (p nm : ByteArray) (hp : pathS p = 0) (hn : has (p, nm)) :
    dropE M p nm = 0 ∧ TabIs (dropM M p nm) (fun k => k ≠ (p, nm) ∧ has k) (fun q => n q - (if p = q then 1 else 0)) (l - 1) := by
  have hk : (getA (p, nm) M).isSome = true := (h.keys _).2 hn
  have he : dropE M p nm = 0 := by unfold dropE; rw [if_pos hp, if_pos hk]
  refine ⟨he, ?_, fun k => ?_, fun q => ?_, ?_⟩
  · unfold dropM; rw [if_pos he]; exact nodup_del _ M h.nodup
  · unfold dropM
    rw [if_pos he, get_del _ _ _ h.nodup]
    by_cases e : k = (p, nm)
    · rw [if_pos e]; simp [e]
    · rw [if_neg e, h.keys]; simp [e]
  · unfold dropM
    rw [if_pos he]
    have := cnt_del q (p, nm) M hk
    have h2 := h.count q
    simp only at this
    omega
  · unfold dropM
    rw [if_pos he]
    have := len_del (p, nm) M hk
    have h2 := h.size
    omega
theorem getA_mem {k : Key} : ∀ {M : Tab}, (getA k M).isSome = true ↔ k ∈ M.map (fun x => x.1)
  | [] => by simp [getA]
  | p :: r => by
    unfold getA
    by_cases e : p.1 = k
    · rw [if_pos e]; simp [e]
    · rw [if_neg e, getA_mem, List.map_cons, List.mem_cons]
      exact ⟨.inr, fun h => h.elim (fun h => absurd h.symm e) id⟩
def nm (i : Nat) : ByteArray := (⟨#[110]⟩ : ByteArray) ++ strOfNums [97 + (i : Int)]
end Go.Proofs.YtphddbijdfmpjaaDoor.Wr
namespace Go.Proofs.YtphddbijdfmpjaaDoor.Q
open Go.RowKit Go.MapRaw Go.Proofs.YtphddbijdfmpjaaDoorW.PrintWords Go.Proofs.YtphddbijdfmpjaaDoorW.PrintLast Go.Proofs.YtphddbijdfmpjaaDoor.Wr Go.Proofs.YtphddbijdfmpjaaDoor.Pl
set_option linter.unusedVariables false
set_option linter.unusedSimpArgs false
def keyB (b : Bnd) : Key := (b.path, b.name)
def cntB (q : ByteArray) : List Bnd → Nat
  | [] => 0
  | b :: r => (if b.path = q then 1 else 0) + cntB q r
theorem cntB_app (q : ByteArray) : ∀ x y : List Bnd, cntB q (x ++ y) = cntB q x + cntB q y
  | [], y => by simp [cntB]
  | b :: r, y => by simp only [List.cons_append, cntB, cntB_app q r y]; omega
theorem cntB_perm (q : ByteArray) {x y : List Bnd} (h : x.Perm y) : cntB q x = cntB q y := by
  induction h with
  | nil => rfl
  | cons a _ ih => simp only [cntB, ih]
  | swap a b l => simp only [cntB]; omega
  | trans _ _ ih1 ih2 => exact ih1.trans ih2
theorem cntB_tab (q : ByteArray) : ∀ M : Tab, (∀ x ∈ M, x.1 = keyB x.2) → cntB q (M.map fun p => p.2) = cnt q M
  | [], _ => rfl
  | x :: r, h => by
    have hx := h x (by simp)
    simp only [List.map_cons, cntB, cnt, cntB_tab q r (fun y hy => h y (by simp [hy]))]
    rw [hx]; rfl
structure Fit (m : List Bnd) : Prop where
  formed : ∀ b ∈ m, formedB b = true
  apart : (m.map keyB).Nodup
  few : ∀ q, cntB q m ≤ 16
theorem Fit.perm {m n : List Bnd} (h : Fit m) (hp : m.Perm n) : Fit n :=
  ⟨fun b hb => h.formed b (hp.mem_iff.2 hb), (hp.map keyB).nodup_iff.1 h.apart, fun q => by rw [← cntB_perm q hp]; exact h.few q⟩
theorem Fit.table {M : Tab} (hn : (M.map (fun x => x.1)).Nodup) (hf : ∀ p ∈ M, p.1 = (p.2.path, p.2.name) ∧ formedB p.2 = true) (hc : ∀ q, cnt q M ≤ 16) : Fit (M.map fun p => p.2) := by
  refine ⟨fun b hb => ?_, ?_, fun q => by rw [cntB_tab q M (fun x hx => (hf x hx).1)]; exact hc q⟩
  · obtain ⟨x, hx, rfl⟩ := List.mem_map.1 hb
    exact (hf x hx).2
  · rw [List.map_map]
    have : (M.map (keyB ∘ fun p => p.2)) = M.map (fun x => x.1) := List.map_congr_left fun x hx => (hf x hx).1.symm
    rw [this]; exact hn
def tag (b : Bnd) : Key × Bnd := (keyB b, b)
theorem put_new {k : Key} {v : Bnd} : ∀ {M : Tab}, k ∉ M.map (fun x => x.1) → putA k v M = M ++ [(k, v)]
  | [], _ => rfl
  | p :: r, h => by
    simp only [List.map_cons, List.mem_cons, not_or] at h
    unfold putA
    rw [if_neg (fun e => h.1 e.symm), put_new h.2]
    rfl
theorem getA_out {k : Key} {M : Tab} : (getA k M).isSome = true ↔ k ∈ M.map (fun x => x.1) := getA_mem
theorem of_fresh : ∀ (m : List Bnd) (n : List Bnd), Fit (n ++ m) → ofS (n.map tag) m = (some ((n ++ m).map tag), 0)
  | [], n, _ => by rw [List.append_nil]; rfl
  | b :: r, n, h => by
    have hf : formedB b = true := h.formed b (by simp)
    have hk : keyB b ∉ (n.map tag).map (fun x => x.1) := by
      have ha := h.apart
      rw [List.map_append, List.nodup_append] at ha
      rw [List.map_map]
      intro hm
      exact ha.2.2 (keyB b) (by obtain ⟨x, hx, e⟩ := List.mem_map.1 hm; exact List.mem_map.2 ⟨x, hx, e⟩) (keyB b) (by simp) rfl
    have hg : ¬ (getA (b.path, b.name) (n.map tag)).isSome = true := fun e => hk (getA_out.1 e)
    have hc : cnt b.path (n.map tag) < 16 := by
      have h1 := h.few b.path
      rw [cntB_app] at h1
      simp only [cntB, if_true] at h1
      have h2 := cntB_tab b.path (n.map tag) (fun x hx => by obtain ⟨y, _, rfl⟩ := List.mem_map.1 hx; rfl)
      rw [List.map_map] at h2
      have h3 : (n.map ((fun p : Key × Bnd => p.2) ∘ tag)) = n := by simp [Function.comp_def, tag]
      rw [h3] at h2
      omega
    have he : setE (n.map tag) b = 0 := by
      unfold setE
      rw [if_pos hf, if_neg (fun e => by omega)]
    have hm : setM (n.map tag) b = (n ++ [b]).map tag := by
      unfold setM
      rw [if_pos he, show putA (b.path, b.name) b (n.map tag) = n.map tag ++ [((b.path, b.name), b)] from put_new hk, List.map_append]
      rfl
    have ih := of_fresh r (n ++ [b]) (by rw [List.append_assoc]; exact h)
    rw [List.append_assoc] at ih
    unfold ofS
    rw [if_neg (fun e => hg e.1), if_pos he, hm]
    exact ih
theorem of_all {m : List Bnd} (h : Fit m) : ofS [] m = (some (m.map tag), 0) := of_fresh m [] h
theorem of_again : ∀ (m : List Bnd) (n : List Bnd) (b : Bnd), Fit (n ++ m) → b ∈ n ++ m → ofS (n.map tag) (m ++ [b]) = (none, 190)
  | [], n, b, h, hb => by
    rw [List.append_nil] at h hb
    show (if (getA (b.path, b.name) (n.map tag)).isSome = true ∧ formedB b = true then ((none : Option Tab), (190 : Int)) else _) = _
    rw [if_pos ⟨getA_out.2 (by rw [List.map_map]; exact List.mem_map.2 ⟨b, hb, rfl⟩), h.formed b hb⟩]
  | c :: r, n, b, h, hb => by
    have h1 := of_fresh [c] n (by
      have e : n ++ c :: r = (n ++ [c]) ++ r := by simp
      rw [e] at h
      refine ⟨fun x hx => h.formed x (List.mem_append_left _ hx), ?_, fun q => ?_⟩
      · have := h.apart
        rw [List.map_append, List.nodup_append] at this
        exact this.1
      · have := h.few q
        rw [cntB_app] at this
        omega)
    have ih := of_again r (n ++ [c]) b (by rw [List.append_assoc]; exact h) (by rw [List.append_assoc]; exact hb)
    rw [List.cons_append]
    unfold ofS at h1 ⊢
    split at h1
    · cases h1
    · rename_i hx
      rw [if_neg hx]
      split at h1
      · rename_i h0
        rw [if_pos h0]
        unfold ofS at h1
        have : setM (n.map tag) c = (n ++ [c]).map tag := Option.some.inj (congrArg Prod.fst h1)
        rw [this]
        exact ih
      · cases h1
theorem path_inj {a b : ByteArray} (ha : pathS a = 0) (hb : pathS b = 0) (h : (splitS a).1 = (splitS b).1) : a = b := by
  rcases path_cases a with ⟨na, h1, e1⟩ | ⟨_, e1⟩
  · rcases path_cases b with ⟨nb, h2, e2⟩ | ⟨_, e2⟩
    · rw [e1, e2] at h
      have h' : na.map toB = nb.map toB := h
      have hn : na = nb := by
        rw [← map_list na, ← map_list nb, h']
      rw [s_of h1, s_of h2, hn]
    · unfold pathS at hb; rw [e2] at hb; cases hb
  · unfold pathS at ha; rw [e1] at ha; cases ha
theorem formed_path {b : Bnd} (h : formedB b = true) : pathS b.path = 0 := by
  unfold formedB at h
  simp only [Bool.and_eq_true, decide_eq_true_eq] at h
  exact h.1.1.1.1
theorem cmpB_key {a b : Bnd} (ha : formedB a = true) (hb : formedB b = true) (h : cmpB a b = 0) : keyB a = keyB b := by
  unfold cmpB at h
  by_cases e : cmpL (splitS a.path).1 (splitS b.path).1 = 0
  · rw [if_neg (by omega)] at h
    have h1 := path_inj (formed_path ha) (formed_path hb) (cmpL_zero e)
    have h2 := cmpS_zero h
    unfold keyB
    rw [h1, h2]
  · rw [if_pos (by omega)] at h; omega
theorem key_inj {m : List Bnd} (h : (m.map keyB).Nodup) {a b : Bnd} (ha : a ∈ m) (hb : b ∈ m) (e : keyB a = keyB b) : a = b := by
  induction m with
  | nil => cases ha
  | cons x r ih =>
    rw [List.map_cons, List.nodup_cons] at h
    rcases List.mem_cons.1 ha with h1 | h1
    · rcases List.mem_cons.1 hb with h2 | h2
      · rw [h1, h2]
      · exact absurd (List.mem_map.2 ⟨b, h2, by rw [← h1]; exact e.symm⟩) h.1
    · rcases List.mem_cons.1 hb with h2 | h2
      · exact absurd (List.mem_map.2 ⟨a, h1, by rw [← h2]; exact e⟩) h.1
      · exact ih h.2 h1 h2
theorem rising_eq {x y : List Bnd} (hf : Fit x) (hp : y.Perm x) (hx : Rising x) (hy : Rising y) : y = x := by
  refine List.Perm.eq_of_pairwise (le := fun a b => cmpB a b ≤ 0) ?_ hy hx hp
  intro a b ha hb h1 h2
  have hb' : b ∈ x := hb
  have ha' : a ∈ x := hp.mem_iff.1 ha
  have := ordB.neg a b
  exact key_inj hf.apart ha' hb' (cmpB_key (hf.formed a ha') (hf.formed b hb') (by omega))
theorem rises_next {l : List Bnd} (hf : Fit l) (hr : Rising l) {i : Nat} (h : i + 1 < l.length) : risesB l[i] l[i + 1] = true := by
  have h1 : cmpB l[i] l[i + 1] ≤ 0 := (List.pairwise_iff_getElem.1 hr) i (i + 1) (by omega) h (by omega)
  have fa := hf.formed l[i] (List.getElem_mem _)
  have fb := hf.formed l[i + 1] (List.getElem_mem _)
  have h2 : cmpB l[i] l[i + 1] ≠ 0 := fun e => by
    have hk := cmpB_key fa fb e
    have ha := hf.apart
    rw [List.nodup_iff_pairwise_ne, List.pairwise_map, List.pairwise_iff_getElem] at ha
    exact ha i (i + 1) (by omega) h (by omega) hk
  unfold risesB
  by_cases hp : l[i].path = l[i + 1].path
  · rw [if_pos hp, ← cmpS_lt]
    have e : cmpB l[i] l[i + 1] = cmpS l[i].name l[i + 1].name := by
      unfold cmpB
      rw [hp, ordL.self, if_neg (by decide)]
    omega
  · rw [if_neg hp, decide_eq_true_eq]
    have e : cmpL (splitS l[i].path).1 (splitS l[i + 1].path).1 ≠ 0 := fun e => hp (path_inj (formed_path fa) (formed_path fb) (cmpL_zero e))
    have e2 : cmpB l[i] l[i + 1] = cmpL (splitS l[i].path).1 (splitS l[i + 1].path).1 := by
      unfold cmpB
      rw [if_pos e]
    omega
theorem few_play {M : Tab} {o : OpV} (h : ∀ q, cnt q M ≤ 16) : ∀ q, cnt q (playM M o) ≤ 16 := by
  intro q
  unfold playM
  split
  · unfold setM
    split
    · rename_i h0
      rw [cnt_put]
      by_cases hg : (getA (o.b.path, o.b.name) M).isSome = true
      · rw [if_pos hg]; have := h q; omega
      · rw [if_neg hg]
        by_cases hq : o.b.path = q
        · rw [if_pos hq]
          have : cnt o.b.path M < 16 := by
            unfold setE at h0
            by_cases hf : formedB o.b = true
            · rw [if_pos hf] at h0
              by_cases hc : 16 ≤ cnt o.b.path M
              · rw [if_pos ⟨by cases hx : getA (o.b.path, o.b.name) M with
                  | none => rfl
                  | some z => rw [hx] at hg; exact absurd rfl hg, hc⟩] at h0
                cases h0
              · omega
            · rw [if_neg hf] at h0; cases h0
          rw [← hq]; omega
        · rw [if_neg hq]; have := h q; omega
    · exact h q
  · split
    · unfold dropM
      split
      · rename_i h0
        have hg : (getA (o.path, o.name) M).isSome = true := by
          unfold dropE at h0
          by_cases hp : pathS o.path = 0
          · rw [if_pos hp] at h0
            by_cases hx : (getA (o.path, o.name) M).isSome = true
            · exact hx
            · rw [if_neg hx] at h0; cases h0
          · rw [if_neg hp] at h0; cases h0
        have := cnt_del q (o.path, o.name) M hg
        have := h q
        omega
      · exact h q
    · split
      · rw [cnt_leave]
        have := h q
        split <;> omega
      · exact h q
theorem cntB_take (q : ByteArray) (l : List Bnd) (i : Nat) : cntB q (l.take i) ≤ cntB q l := by
  have := cntB_app q (l.take i) (l.drop i)
  rw [List.take_append_drop] at this
  omega
theorem cntB_take_succ (q : ByteArray) {l : List Bnd} {i : Nat} (h : i < l.length) : cntB q (l.take (i + 1)) = cntB q (l.take i) + (if l[i].path = q then 1 else 0) := by
  rw [List.take_succ_eq_append_getElem h, cntB_app]
  simp [cntB]
end Go.Proofs.YtphddbijdfmpjaaDoor.Q
namespace Go.Proofs.YtphddbijdfmpjaaDoor.Q
open Go.RowKit Go.Sort Go.MapRaw Go.Proofs.YtphddbijdfmpjaaDoorW.PrintWords Go.Proofs.YtphddbijdfmpjaaDoorW.PrintLast Go.Proofs.YtphddbijdfmpjaaDoor.Wr
set_option linter.unusedVariables false
set_option linter.unusedSimpArgs false
def put4 (w : World) (g o : Nat) (x : Bnd) : World := (((w.setCell ⟨g, o, none⟩ (.string x.path)).setCell ⟨g, o + 1, none⟩ (.string x.name)).setCell ⟨g, o + 2, none⟩ (.string x.subject)).setCell ⟨g, o + 3, none⟩ (.int .i64 x.verb)
theorem put4_grown (w : World) (g o : Nat) (x : Bnd) : w.grownBy (put4 w g o x) (some g) := by
  unfold put4
  refine ⟨rfl, rfl, rfl, by simp, fun k hk hne => ?_⟩
  have h : k ≠ g := fun e => hne (by rw [e])
  rw [Below.heap_setCell _ _ _ _ h, Below.heap_setCell _ _ _ _ h, Below.heap_setCell _ _ _ _ h, Below.heap_setCell _ _ _ _ h]
theorem put4_heap {w : World} {g o : Nat} {x : Bnd} {cur : Array Value} (h : w.heap[g]? = some (.cells cur 27 (0, 0))) :
    (put4 w g o x).heap[g]? = some (.cells ((((cur.setIfInBounds o (.string x.path)).setIfInBounds (o + 1) (.string x.name)).setIfInBounds (o + 2) (.string x.subject)).setIfInBounds (o + 3) (.int .i64 x.verb)) 27 (0, 0)) :=
  blk_put (blk_put (blk_put (blk_put h o _ rfl) (o + 1) _ rfl) (o + 2) _ rfl) (o + 3) _ rfl
theorem R_put4 {w : World} {base g cap : Nat} {ok : Nat → Prop} {xs : List Bnd} (h : Kd.R k27 27 w base ok (.slice (some ⟨g, 0, none⟩) xs.length cap) xs) (i : Nat) (hi : i < xs.length) (x : Bnd) :
    Kd.R k27 27 (put4 w g (i * 4) x) base ok (.slice (some ⟨g, 0, none⟩) xs.length cap) (xs.set i x) := by
  obtain ⟨h0, inner, ho, hin⟩ := h
  rcases ho.2 with ⟨he, _⟩ | ⟨g', cap', cur, he, hg, hb, h1, h2, h3, h4⟩
  · cases he
  · injection he with he1 _ he3
    injection he1 with he1
    injection he1 with he1
    subst he1 he3
    have hin' := inner27 hin
    have hl : (xs.set i x).length = xs.length := List.length_set
    have h4' : cur.toList.take (xs.length * 4) = (flatK encB 4 xs.toArray).toList := h4.trans hin'
    have h3' : cur.size = cap * 4 := h3
    refine ⟨h0, (flatK encB 4 (xs.set i x).toArray).toList, ⟨by rw [hl]; exact (flat_len _).trans (by rw [hl]; rfl), .inr ⟨g, cap, _, by rw [hl], hg, put4_heap hb, by rw [hl]; exact h1, h2, by simp [h3'] <;> rfl, ?_⟩⟩, reps27 _ _ _ _⟩
    rw [hl]
    show List.take (xs.length * 4) _ = _
    apply List.ext_getElem?
    intro t
    by_cases ht : t < xs.length * 4
    · rw [List.getElem?_take_of_lt ht, flat_get (by rw [hl]; exact ht)]
      have hcur : cur.toList[t]? = (encB (xs.getD (t / 4) zb))[t % 4]? := by
        rw [← flat_get ht, ← h4', List.getElem?_take_of_lt ht]
      have hcs : i * 4 + 3 < cur.size := by omega
      have hd : t % 4 = 0 ∨ t % 4 = 1 ∨ t % 4 = 2 ∨ t % 4 = 3 := by omega
      by_cases hti : t / 4 = i
      · have hgx : (xs.set i x).getD (t / 4) zb = x := by rw [hti]; simp [List.getD_eq_getElem?_getD, hi]
        rw [hgx, Array.getElem?_toList]
        rcases hd with hd | hd | hd | hd
        · have : t = i * 4 := by omega
          subst this
          rw [hd]
          simp [Array.getElem?_setIfInBounds, encB, show i * 4 < cur.size by omega]
        · have : t = i * 4 + 1 := by omega
          subst this
          rw [hd]
          simp [Array.getElem?_setIfInBounds, encB, show i * 4 + 1 < cur.size by omega]
        · have : t = i * 4 + 2 := by omega
          subst this
          rw [hd]
          simp [Array.getElem?_setIfInBounds, encB, show i * 4 + 2 < cur.size by omega]
        · have : t = i * 4 + 3 := by omega
          subst this
          rw [hd]
          simp [Array.getElem?_setIfInBounds, encB, hcs]
      · have hgx : (xs.set i x).getD (t / 4) zb = xs.getD (t / 4) zb := by simp [List.getD_eq_getElem?_getD, Ne.symm hti]
        rw [hgx, ← hcur, Array.getElem?_toList, Array.getElem?_toList]
        rw [Array.getElem?_setIfInBounds_ne (by omega), Array.getElem?_setIfInBounds_ne (by omega), Array.getElem?_setIfInBounds_ne (by omega), Array.getElem?_setIfInBounds_ne (by omega)]
    · rw [List.getElem?_take_eq_none (by omega), List.getElem?_eq_none (by rw [flat_len, hl]; omega)]
theorem R_cells {w : World} {base g cap : Nat} {ok : Nat → Prop} {xs : List Bnd} (h : Kd.R k27 27 w base ok (.slice (some ⟨g, 0, none⟩) xs.length cap) xs) (i : Nat) (hi : i < xs.length) :
    (∀ j u, (encB xs[i])[j]? = some u → w.cell? ⟨g, i * 4 + j, none⟩ = some u) ∧ ∀ j, w.frozen? ⟨g, j, none⟩ = false := by
  obtain ⟨ad, hA, hx0, hx⟩ := bnd_at (Kd.R_reads' h).2.2 i hi
  cases hA
  refine ⟨fun j u hu => ?_, fun j => ?_⟩
  · have ha : (⟨g, 0, none⟩ : Addr).add (i * 4) = ⟨g, i * 4, none⟩ := by
      unfold Addr.add
      by_cases h0 : i * 4 = 0
      · rw [if_pos h0, h0]
      · rw [if_neg h0]; simp
    rw [ha] at hx0 hx
    cases j with
    | zero =>
      have : u = .string xs[i].path := by simpa [encB] using hu.symm
      rw [this]; exact hx0
    | succ j => exact hx (j + 1) u (by omega) hu
  · obtain ⟨h0, inner, ho, hin⟩ := h
    rcases ho.2 with ⟨he, _⟩ | ⟨g', cap', cur, he, hg, hb, _⟩
    · cases he
    · injection he with he1 _ he3
      injection he1 with he1
      injection he1 with he1
      subst he1
      exact blk_frozen hb j
theorem swap_perm {l : List Bnd} {a b : Nat} (ha : a < l.length) (hb : b < l.length) : ((l.set a l[b]).set b l[a]).Perm l := List.set_set_perm ha hb
end Go.Proofs.YtphddbijdfmpjaaDoor.Q
