/- What the statement AccessApartUptoCardSaid rests on, part 5 of 5: walks and plain laws; what of the printer's words it leans on. -/
import Derived.Test.YtphddbijdfmpjaaDoorRows
import Derived.Test.YtphddbijdfmpjaaDoorCards
import Derived.Test.YtphddbijdfmpjaaDoorTie
import Derived.Test.YtphddbijdfmpjaaDoorMAP3
import Derived.Test.YtphddbijdfmpjaaDoorMAP4
import Derived.LaidSub
import Derived.Lib.LaidTab
import Derived.ChangeSame
import Derived.WalkKit
import Derived.ProofKit
import Derived.OpenShut
import Derived.ShutString
import Derived.ChangeOld
import Derived.Below
import Derived.SizedLaws
import Derived.Deep.DeepHandedRow
import Derived.LaidMore
namespace Go.Proofs.YtphddbijdfmpjaaDoor.Q
open Go.RowKit Go.MapRaw Go.Proofs.YtphddbijdfmpjaaDoorW.PrintWords Go.Proofs.YtphddbijdfmpjaaDoorW.PrintLast Go.Proofs.YtphddbijdfmpjaaDoor.Wr
open Go.ChangeMaps (setBlock)
set_option linter.unusedVariables false
set_option linter.unusedSimpArgs false
set_option maxRecDepth 100000 in
set_option maxHeartbeats 64000000 in
theorem bursarlaw21_AccessApart.calls (k : Nat) (A : Option Addr) (c : Nat) (l : List Bnd) (s : ByteArray) (r : Bool) (w : World) (hr : k27.C w A l.length l) (hc : l.length ≤ c) (hp : Small27 l ∧ r = true) (hG : Glob w) :
    Calls Tryd.prog 9 #[.slice A l.length c, .string s] w fun e w' => e = .returned (.bool r) ∧ Below w.heap.size w w' := by
  obtain ⟨hsm, hp⟩ := hp
  have hu27 := Tryd.underlying27
  have G1 := Lib.hid hG
  have LV := Lib.hid (lives_ok w hG)
  have C0 := Lib.hid hr
  have HLL := Lib.hid hsm.1
  have HP := Lib.hid hp
  clear hr hG hsm hc hp
  go_enter Tryd.func9, Tryd.ntmps9
  go_upto_region 3 with (go_at_call 10; refine LV.out.mono ?_; rintro e w1 ⟨t0, b0_, rfl, hT, ht, hb, hb1⟩; have B1 := Aside0.mk hb1; clear hT ht hb hb1)
  clear LV
  have C1 := Aside0.mk (Kd.C_below C0.out B1.out)
  go_wp2_with ((with_reducible refine gate_builtin (b := .append) (xs := #[.const (.slice none 0 0), .tmp 23]) rfl ?_); at_builtin; refine park_ ?_)
  refine Aside0.mk ?_
  refine Kd.R_append_rows k27 (Rr := k27.K w1) (w0 := w1) w1.heap.size rfl (.const (.slice none 0 0)) (.tmp 23) 36 27 (.agg #[.string ⟨#[]⟩, .string ⟨#[]⟩, .string ⟨#[]⟩, .int .i64 0]) 56 rfl Tryd.underlying36 info27 rfl (by decide) (by omega) (.slice none 0 0) ([] : List Bnd) l A l.length c (fun _ => True) (fun _ => False) rfl rfl ?aO ?aR ?aK (fun _ h => h.elim) ?aF ?aB ?aS ?aL ?_
  (case aR => exact C1.out)
  (case aK => exact (fun x cs h => by rw [k27_cells h]; exact k27_mkM _ _ _ _))
  (case aB => exact Below.refl _ _)
  (case aF => exact (fun _ _ => trivial))
  (case aO => exact (Kd.R_nil _ _ _ _ (fun _ => True)))
  (case aS => exact Nat.le_refl _)
  (case aL => have := HLL.out; simp; omega)
  intro v2 w2 ho hb2 hg2 hat2
  rw [List.nil_append] at ho
  obtain ⟨AG, cG, rfl⟩ := Kd.R_slice ho
  have O2 := Aside0.mk ho
  have B2 := Aside0.mk hb2
  clear ho hb2 hg2 hat2
  go_wp2_with ((with_reducible refine gate_builtin (b := .append) (xs := #[.tmp 24, .tmp 27]) rfl ?_); at_builtin; refine park_ ?_)
  refine Aside0.mk ?_
  have B3 := Aside0.mk (B2.out.alloc B2.out.size (.cells #[.string ⟨#[]⟩, .string ⟨#[109, 49]⟩, .string ⟨#[]⟩, .int .i64 0, .string ⟨#[]⟩, .string ⟨#[109, 50]⟩, .string ⟨#[]⟩, .int .i64 0] 27))
  have O3 := Aside0.mk (Kd.R_alloc O2.out (.cells #[.string ⟨#[]⟩, .string ⟨#[109, 49]⟩, .string ⟨#[]⟩, .int .i64 0, .string ⟨#[]⟩, .string ⟨#[109, 50]⟩, .string ⟨#[]⟩, .int .i64 0] 27))
  have CM := Lib.hid (two_new (x := ⟨⟨#[]⟩, ⟨#[109, 49]⟩, ⟨#[]⟩, 0⟩) (y := ⟨⟨#[]⟩, ⟨#[109, 50]⟩, ⟨#[]⟩, 0⟩) (blk_new w2 (.cells #[.string ⟨#[]⟩, .string ⟨#[109, 49]⟩, .string ⟨#[]⟩, .int .i64 0, .string ⟨#[]⟩, .string ⟨#[109, 50]⟩, .string ⟨#[]⟩, .int .i64 0] 27)))
  obtain ⟨gm, hgm⟩ : ∃ gm, gm = w2.heap.size := ⟨_, rfl⟩
  rw [← hgm] at CM ⊢
  clear hgm B2 O2
  generalize w2.alloc _ = w3 at B3 O3 CM ⊢
  refine Kd.R_append_rows k27 (Rr := k27.K w3) (w0 := w1) w1.heap.size rfl (.tmp 24) (.tmp 27) 36 27 (.agg #[.string ⟨#[]⟩, .string ⟨#[]⟩, .string ⟨#[]⟩, .int .i64 0]) 56 rfl Tryd.underlying36 info27 rfl (by decide) (by omega) (.slice AG l.length cG) l [⟨⟨#[]⟩, ⟨#[109, 49]⟩, ⟨#[]⟩, 0⟩, ⟨⟨#[]⟩, ⟨#[109, 50]⟩, ⟨#[]⟩, 0⟩] (some ⟨gm, 0, none⟩) 2 2 (fun _ => True) (fun _ => False) rfl rfl ?aO ?aR ?aK (fun _ h => h.elim) ?aF ?aB ?aS ?aL ?_
  (case aR => exact CM.out)
  (case aK => exact (fun x cs h => by rw [k27_cells h]; exact k27_mkM _ _ _ _))
  (case aB => exact B3.out)
  (case aF => exact (fun _ _ => trivial))
  (case aO => exact O3.out)
  (case aS => exact B3.out.size)
  (case aL => have := HLL.out; omega)
  intro v3 w4 ho hb4 hg4 hat4
  obtain ⟨full, hfull⟩ : ∃ full, full = l ++ [(⟨⟨#[]⟩, ⟨#[109, 49]⟩, ⟨#[]⟩, 0⟩ : Bnd), ⟨⟨#[]⟩, ⟨#[109, 50]⟩, ⟨#[]⟩, 0⟩] := ⟨_, rfl⟩
  rw [← hfull] at ho
  have HFL := Lib.hid (show full.length = l.length + 2 by rw [hfull, List.length_append]; rfl)
  have HFT := Lib.hid (show full.take l.length = l by rw [hfull]; simp)
  have HF1 := Lib.hid (show ∀ h : l.length < full.length, full[l.length] = ⟨⟨#[]⟩, ⟨#[109, 49]⟩, ⟨#[]⟩, 0⟩ from fun h => by subst hfull; simp)
  have HF2 := Lib.hid (show ∀ h : l.length + 1 < full.length, full[l.length + 1] = ⟨⟨#[]⟩, ⟨#[109, 50]⟩, ⟨#[]⟩, 0⟩ from fun h => by subst hfull; simp [List.getElem_append_right])
  obtain ⟨AF, cF, rfl⟩ := Kd.R_slice ho
  obtain ⟨gF, rfl, hgF⟩ := R_own ho (by have := HFL.out; omega)
  have HGF := Lib.hid hgF
  have HGL := Lib.hid (show gF < w4.heap.size from R_lt ho)
  have HCF := Lib.hid (show full.length ≤ cF from (Kd.R_reads' ho).2.1)
  have O4 := Aside0.mk ho
  have B4 := Aside0.mk hb4
  clear ho hb4 hg4 hat4 B3 O3 CM hfull hgF
  have BW := Aside0.mk (B1.out.trans (below_lower B4.out B1.out.size))
  have L4 := Aside0.mk (Kd.C_below C1.out (below_lower B4.out (Nat.le_refl _)))
  clear C1
  have M4 := Aside0.mk (show k27.C w4 (some ⟨gF, 0, none⟩) l.length l by
    have h := C_pre (Kd.R_reads' O4.out).2.2 (show l.length ≤ full.length by have := HFL.out; omega)
    rw [HFT.out] at h
    exact h)
  have OFM := Lib.hid (of_ok (some ⟨gF, 0, none⟩) cF l w4 M4.out (G1.out.below BW.out) (by have := HLL.out; omega))
  have SELF := Lib.hid (fun w' hx hy => same_self2 (same_ok (some ⟨gF, 0, none⟩) A cF c l l w' hx hy (by have := HLL.out; omega)))
  have HE := Lib.hid (ofS_end l [])
  have HTL := Lib.hid (show l = [] → (ofS [] l).1 = some [] from fun e => by rw [e]; rfl)
  obtain ⟨o1, ho1⟩ : ∃ o1, o1 = ofS [] l := ⟨_, rfl⟩
  have HO1 := Lib.hid ho1
  rw [← ho1] at OFM HE HTL
  clear ho1
  have hle1 : (0 ≤ (l.length : Int)) = True := eq_true (by omega)
  have hle2 : ((l.length : Int) ≤ (cF : Int)) = True := eq_true (by have := HCF.out; have := HFL.out; omega)
  have hle2n : (l.length ≤ cF) = True := eq_true (by have := HCF.out; have := HFL.out; omega)
  have i1 : ((l.length : Int) < (full.length : Int)) = True := eq_true (by have := HFL.out; omega)
  obtain ⟨n1, hn1⟩ : ∃ n1, n1 = l.length + 1 := ⟨_, rfl⟩
  have HN1 := Lib.hid hn1
  have hw1 : wrap64 ((l.length : Int) + 1) = (n1 : Int) := by rw [hn1]; exact w64 _ (by have := HLL.out; omega)
  have i2 : ((n1 : Int) < (full.length : Int)) = True := eq_true (by have := HFL.out; omega)
  have i3 : (0 ≤ (n1 : Int)) = True := eq_true (by omega)
  have HF3 := Lib.hid (show ∀ h : n1 < full.length, full[n1] = ⟨⟨#[]⟩, ⟨#[109, 50]⟩, ⟨#[]⟩, 0⟩ from fun h => by subst hn1; exact HF2.out h)
  clear hn1
  obtain ⟨r1, z1⟩ := o1
  cases r1 with
  | none =>
    have hz : z1 ≠ 0 := HE.out.1 rfl
    have hz2 : (z1 != 0) = true := bne_iff_ne.2 hz
    have hz3 : (z1 == 0) = false := beq_eq_false_iff_ne.2 hz
    clear hz HE HTL
    go_upto_region 6 with (go_at_call 14; refine OFM.out.mono ?_; rintro e w5 ⟨v5, rfl, hv, hb⟩; obtain ⟨_, rfl⟩ := hv.resolve_right (fun ⟨_, _, _, h, _⟩ => by cases h); have M5 := Aside0.mk (Kd.C_below M4.out hb); have L5 := Aside0.mk (Kd.C_below L4.out hb); have O5 := Aside0.mk (Kd.R_below O4.out hb); have B5 := Aside0.mk (BW.out.trans (below_lower hb BW.out.size)); clear hv hb)
    clear OFM
    go_upto_region 8 with (go_at_call 16; refine (SELF.out w5 M5.out L5.out).mono ?_; rintro e w6 ⟨rfl, hb⟩; have O6 := Aside0.mk (Kd.R_below O5.out hb); have B6 := Aside0.mk (B5.out.trans (below_lower hb B5.out.size)); clear hb; have k1 := (R_cells O6.out l.length (by have := HFL.out; omega)).1 1 (.string ⟨#[109, 49]⟩) (by rw [HF1.out]; rfl); have k2 := (R_cells O6.out n1 (by have := HFL.out; have := HN1.out; omega)).1 1 (.string ⟨#[109, 50]⟩) (by rw [HF3.out]; rfl))
    go_wp2
    go_ret
    exact ⟨by rw [HP.out] <;> rfl, B6.out⟩
  | some U =>
    obtain rfl : z1 = 0 := HE.out.2 rfl
    clear HE
    go_upto_region 6 with (go_at_call 14; refine OFM.out.mono ?_; rintro e w5 ⟨v5, rfl, hv, hb⟩; obtain ⟨M, tu, bu, hU, rfl, hTU, htu, hbu⟩ := hv.resolve_left (fun h => (by cases h.1)); obtain rfl : U = M := Option.some.inj hU; have T5 := Aside0.mk hTU; have HTB := Lib.hid (And.intro htu hbu); have M5 := Aside0.mk (Kd.C_below M4.out hb); have L5 := Aside0.mk (Kd.C_below L4.out hb); have O5 := Aside0.mk (Kd.R_below O4.out hb); have B5 := Aside0.mk (BW.out.trans (below_lower hb BW.out.size)); clear hv hb hTU hU htu hbu)
    clear OFM
    go_upto_region 8 with (go_at_call 16; refine (SELF.out w5 M5.out L5.out).mono ?_; rintro e w6 ⟨rfl, hb⟩; have O6 := Aside0.mk (Kd.R_below O5.out hb); have T6 := Aside0.mk (T5.out.below hb); have B6 := Aside0.mk (B5.out.trans (below_lower hb B5.out.size)); clear hb; have k1 := (R_cells O6.out l.length (by have := HFL.out; omega)).1 1 (.string ⟨#[109, 49]⟩) (by rw [HF1.out]; rfl); have k2 := (R_cells O6.out n1 (by have := HFL.out; have := HN1.out; omega)).1 1 (.string ⟨#[109, 50]⟩) (by rw [HF3.out]; rfl))
    clear SELF M5 L5 O5 B5 T5 M4 L4 O4 B4 BW k1 k2 hle1 hle2 hle2n i1 i2 i3 hw1
    obtain ⟨L, hL⟩ := told_exists T6.out.fits
    have TL := Lib.hid hL
    have HUL := Lib.hid (show U.length ≤ 1048576 by have h := ofS_len l [] U (by rw [← HO1.out]); have := HLL.out; simp at h; omega)
    have HLN := Lib.hid (show L.length ≤ 1048576 by have h := hL.perm.length_eq; rw [List.length_map] at h; have := HUL.out; omega)
    have HL0 := Lib.hid (show 0 < L.length → 0 < l.length by
      intro h0
      have h := hL.perm.length_eq
      have h1 := ofS_len l [] U (by rw [← HO1.out])
      rw [List.length_map] at h
      simp at h1
      omega)
    have HOF := Lib.hid (show ofS [] l = (some U, 0) from HO1.out.symm)
    clear hL HTL HO1
    go_upto_region 11 with fail
    go_loopg [9] l.length (fun g v9 wr => ∃ (i : Nat) (m : List Bnd), v9 = .int .i64 (i : Int) ∧ Aside0 (i + g = l.length) ∧ Aside0 (m.length = full.length) ∧ Aside0 (Kd.R k27 27 wr w1.heap.size (fun _ => True) (.slice (some ⟨gF, 0, none⟩) full.length cF) m) ∧ Aside0 (w6.grownBy wr (some gF)))
    case atStart => exact ⟨0, full, rfl, ⟨by omega⟩, ⟨rfl⟩, O6, ⟨World.grownBy.refl _ _⟩⟩
    case round =>
      obtain ⟨i, m, rfl, HI, HM, HR, HGB⟩ := hrel
      by_cases hi : i < l.length
      · have d1 : decide ((i : Int) < (l.length : Int)) = true := decide_eq_true (by omega)
        have d1n : decide (i < l.length) = true := decide_eq_true hi
        have p1 : (0 ≤ (i : Int)) = True := eq_true (by omega)
        have p2 : ((i : Int) < (full.length : Int)) = True := eq_true (by have := HFL.out; omega)
        obtain ⟨g0, rfl⟩ : ∃ g0, gk = g0 + 1 := ⟨gk - 1, by have := HI.out; omega⟩
        have HLT := Lib.hid (show i < 1048576 by have := HLL.out; omega)
        have him : i < m.length := by have := HM.out; have := HFL.out; omega
        have HRm : Kd.R k27 27 wr w1.heap.size (fun _ => True) (.slice (some ⟨gF, 0, none⟩) m.length cF) m := by rw [HM.out]; exact HR.out
        have hz2 := (R_cells HRm i him).1 2 _ rfl
        have hf2 := (R_cells HRm i him).2 (i * 4 + 2)
        have R2 := Aside0.mk (R_put1 HR.out i him ⟨#[122, 122]⟩)
        have HM2 := Aside0.mk (show (m.set i ⟨m[i].path, m[i].name, ⟨#[122, 122]⟩, m[i].verb⟩).length = full.length by rw [List.length_set]; exact HM.out)
        have G2 := Aside0.mk (World.grownBy.trans HGB.out (setCell_grown wr gF (i * 4 + 2) (.string ⟨#[122, 122]⟩)))
        generalize m.set i ⟨m[i].path, m[i].name, ⟨#[122, 122]⟩, m[i].verb⟩ = m2 at R2 HM2
        clear HRm
        generalize m[i].subject = old at hz2
        clear him hi
        go_wp2
        go_roundg g0
        case measure => omega
        case rel => exact ⟨i + 1, m2, congrArg (Value.int .i64) (by rw [w64 i (by have := HLT.out; omega)]), ⟨by have := HI.out; omega⟩, HM2, R2, G2⟩
      have d1 : decide ((i : Int) < (l.length : Int)) = false := decide_eq_false (by omega)
      have d1n : decide (i < l.length) = false := decide_eq_false hi
      clear hi
      obtain ⟨wa, hwa⟩ : ∃ wa, wa = wr := ⟨_, rfl⟩
      subst hwa
      have B7 := Aside0.mk (B6.out.grown HGB.out B6.out.size (fun j hj => by injection hj with hj; have := HGF.out; have := B1.out.size; omega))
      have T7 := Aside0.mk (T6.out.grown HGB.out (by have := HGL.out; have := HTB.out.1; intro e; injection e with e; omega) (by have := HGL.out; have := HTB.out.2; intro e; injection e with e; omega))
      have HWA := Lib.hid (show w.heap.size ≤ wa.heap.size from B7.out.size)
      have HTW := Lib.hid (And.intro (blk_lt T7.out.at_) (Holds_lt T7.out.holds))
      clear HR HGB O6 T6 B6 HM HI
      have LA := Lib.hid (list_ok wa tu bu U T7.out (G1.out.below B7.out) (by have := HUL.out; omega))
      go_upto_region 15 with (go_at_call 17; refine LA.out.mono ?_; rintro e w8 ⟨v0, L6, rfl, hP6, hS6, hR6, hb6⟩; obtain ⟨Aa, ca, rfl⟩ := Kd.R_slice hR6; have hL6 := (Told.unique T7.out.nodup TL.out ⟨hP6, hS6, T7.out.fits⟩).symm; subst hL6; have RA := Aside0.mk hR6; have D8 := Aside0.mk hb6; have T8 := Aside0.mk (T7.out.below hb6); have B8 := Aside0.mk (B7.out.trans (below_lower hb6 B7.out.size)); clear hP6 hS6 hR6 hb6)
      clear LA
      have LB := Lib.hid (list_ok w8 tu bu U T8.out (G1.out.below B8.out) (by have := HUL.out; omega))
      go_upto_region 16 with (go_at_call 17; refine LB.out.mono ?_; rintro e w9 ⟨v0, L6, rfl, hP6, hS6, hR6, hb6⟩; obtain ⟨Ab, cb, rfl⟩ := Kd.R_slice hR6; have hL6 := (Told.unique T8.out.nodup TL.out ⟨hP6, hS6, T8.out.fits⟩).symm; subst hL6; have RB := Aside0.mk hR6; have D9 := Aside0.mk hb6; have T9 := Aside0.mk (T8.out.below hb6); have B9 := Aside0.mk (B8.out.trans (below_lower hb6 B8.out.size)); clear hP6 hS6 hR6 hb6)
      clear LB
      have LX := Lib.hid (reach_ok w9 tu bu U L s 0 T9.out TL.out (G1.out.below B9.out) (by have := HUL.out; omega))
      have HRN := Lib.hid (reachS_len (L := L) (s := s) (v := 0) (by have := HLN.out; omega))
      obtain ⟨rl, hrl⟩ : ∃ rl, rl = reachS L s 0 := ⟨_, rfl⟩
      rw [← hrl] at LX HRN
      have HRL := Lib.hid hrl
      clear hrl
      go_upto_region 17 with (go_at_call 26; refine LX.out.mono ?_; rintro e w10 ⟨v0, rfl, hR6, hb6⟩; obtain ⟨Ax, cx, rfl⟩ := Kd.R_slice hR6; have RX := Aside0.mk hR6; have D10 := Aside0.mk hb6; have T10 := Aside0.mk (T9.out.below hb6); have B10 := Aside0.mk (B9.out.trans (below_lower hb6 B9.out.size)); clear hR6 hb6)
      clear LX
      have LY := Lib.hid (reach_ok w10 tu bu U L s 0 T10.out TL.out (G1.out.below B10.out) (by have := HUL.out; omega))
      rw [← HRL.out] at LY
      go_upto_region 19 with (go_at_call 26; refine LY.out.mono ?_; rintro e w11 ⟨v0, rfl, hR6, hb6⟩; obtain ⟨Ay, cy, rfl⟩ := Kd.R_slice hR6; have RY := Aside0.mk hR6; have D11 := Aside0.mk hb6; have T11 := Aside0.mk (T10.out.below hb6); have B11 := Aside0.mk (B10.out.trans (below_lower hb6 B10.out.size)); clear hR6 hb6)
      clear LY
      have HSZ := Lib.hid (show wa.heap.size ≤ w8.heap.size ∧ w8.heap.size ≤ w9.heap.size ∧ w9.heap.size ≤ w10.heap.size ∧ w10.heap.size ≤ w11.heap.size from ⟨D8.out.size, D9.out.size, D10.out.size, D11.out.size⟩)
      have HOA := Lib.hid (show ∀ k, (Value.slice Aa L.length ca).ownBlock = some k → wa.heap.size ≤ k ∧ k < w8.heap.size from fun k hk => ⟨Kd.R_base RA.out k hk, Kd.R_lt RA.out k hk⟩)
      have HOB := Lib.hid (show ∀ k, (Value.slice Ab L.length cb).ownBlock = some k → w8.heap.size ≤ k ∧ k < w9.heap.size from fun k hk => ⟨Kd.R_base RB.out k hk, Kd.R_lt RB.out k hk⟩)
      have HOX := Lib.hid (show ∀ k, (Value.slice Ax rl.length cx).ownBlock = some k → w9.heap.size ≤ k ∧ k < w10.heap.size from fun k hk => ⟨Kd.R_base RX.out k hk, Kd.R_lt RX.out k hk⟩)
      have HOY := Lib.hid (show ∀ k, (Value.slice Ay rl.length cy).ownBlock = some k → w10.heap.size ≤ k ∧ k < w11.heap.size from fun k hk => ⟨Kd.R_base RY.out k hk, Kd.R_lt RY.out k hk⟩)
      have RA11 := Aside0.mk (Kd.R_below (Kd.R_below (Kd.R_below RA.out D9.out) D10.out) D11.out)
      have RB11 := Aside0.mk (Kd.R_below (Kd.R_below RB.out D10.out) D11.out)
      have RX11 := Aside0.mk (Kd.R_below RX.out D11.out)
      clear RA RB RX T7 T8 T9 T10 B7 B8 B9 B10 D8 D9 D10 D11
      go_loopg [14] L.length (fun g v14 wr => ∃ (i : Nat) (m : List Bnd), v14 = .int .i64 (i : Int) ∧ Aside0 (i + g = L.length) ∧ Aside0 (m.length = L.length) ∧ Aside0 (∀ j x, m[j]? = some x → j < i → x.subject = ⟨#[121, 121]⟩) ∧ Aside0 (Kd.R k27 27 wr wa.heap.size (fun _ => True) (.slice Aa L.length ca) m) ∧ Aside0 (w11.grownBy wr (Value.slice Aa L.length ca).ownBlock))
      case atStart => exact ⟨0, L, rfl, ⟨by omega⟩, ⟨rfl⟩, ⟨fun j x _ h => by omega⟩, RA11, ⟨World.grownBy.refl _ _⟩⟩
      case round =>
        clear RA11
        obtain ⟨i, m, rfl, HI, HM, HY, HR, HGB⟩ := hrel
        by_cases hi : i < L.length
        · have d1 : decide ((i : Int) < (L.length : Int)) = true := decide_eq_true (by omega)
          have d1n : decide (i < L.length) = true := decide_eq_true hi
          have p1 : (0 ≤ (i : Int)) = True := eq_true (by omega)
          have p2 : ((i : Int) < (L.length : Int)) = True := eq_true (by omega)
          obtain ⟨g0, rfl⟩ : ∃ g0, gk = g0 + 1 := ⟨gk - 1, by have := HI.out; omega⟩
          have HLT := Lib.hid (show i < 1048576 by have := HLN.out; omega)
          obtain ⟨ga, rfl, hga⟩ := R_own HR.out (by omega)
          obtain ⟨gb, rfl, hgb⟩ := R_own RB11.out (by omega)
          have hl0 : 0 < l.length := HL0.out (by omega)
          have q1 : ((0 : Int) < (l.length : Int)) = True := eq_true (by omega)
          have q2 : (0 < l.length) = True := eq_true hl0
          have HGAB := Lib.hid (show ga < w8.heap.size ∧ w8.heap.size ≤ gb ∧ wa.heap.size ≤ ga from ⟨(HOA.out ga rfl).2, (HOB.out gb rfl).1, (HOA.out ga rfl).1⟩)
          have him : i < m.length := by have := HM.out; omega
          have HRm : Kd.R k27 27 wr wa.heap.size (fun _ => True) (.slice (some ⟨ga, 0, none⟩) m.length ca) m := by rw [HM.out]; exact HR.out
          have hz2 := (R_cells HRm i him).1 2 _ rfl
          have hf2 := (R_cells HRm i him).2 (i * 4 + 2)
          have RX2 := Aside0.mk (R_put1 HR.out i him ⟨#[121, 121]⟩)
          have HM2 := Aside0.mk (show (m.set i ⟨m[i].path, m[i].name, ⟨#[121, 121]⟩, m[i].verb⟩).length = L.length by rw [List.length_set]; exact HM.out)
          have HY2 := Aside0.mk (show ∀ j x, (m.set i ⟨m[i].path, m[i].name, ⟨#[121, 121]⟩, m[i].verb⟩)[j]? = some x → j < i + 1 → x.subject = ⟨#[121, 121]⟩ by
            intro j x hj hlt
            by_cases e : j = i
            · subst e
              rw [List.getElem?_set_self him] at hj
              rw [← Option.some.inj hj]
            · rw [List.getElem?_set_ne (fun h => e h.symm)] at hj
              exact HY.out j x hj (by omega))
          have GX2 := Aside0.mk (World.grownBy.trans HGB.out (setCell_grown wr ga (i * 4 + 2) (.string ⟨#[121, 121]⟩)))
          generalize m.set i ⟨m[i].path, m[i].name, ⟨#[121, 121]⟩, m[i].verb⟩ = m2 at RX2 HM2 HY2
          clear HRm
          generalize m[i].subject = old at hz2
          clear him
          go_upto_region 22 with fail
          have HBX := Aside0.mk (B11.out.grown GX2.out B11.out.size (fun k hk => by obtain rfl : ga = k := Option.some.inj hk; have h1 := HGAB.out.2.2; have h2 := HWA.out; exact Nat.le_trans h2 h1))
          have RBX := Aside0.mk (keep27 RB11.out GX2.out (fun k hk => by obtain rfl : gb = k := Option.some.inj hk; have h1 := HGAB.out.1; have h2 := HGAB.out.2.1; intro e; have e : gb = ga := Option.some.inj e; omega))
          clear hz2 hf2 HR HGB
          generalize World.setCell _ _ _ = wx at RX2 GX2 HBX RBX ⊢
          have HBq := Aside0.mk (Below.refl wx.heap.size wx)
          obtain ⟨al, hA, hx0, hx⟩ := bnd_at (Kd.C_below C0.out HBX.out) 0 hl0
          clear hx0 hx
          cases hA
          have CELL := Lib.hid (show ∀ w', Below wx.heap.size wx w' → w'.cell? ⟨gb, i * 4, none⟩ = some (.string L[i].path) ∧ w'.cell? ⟨gb, i * 4 + 1, none⟩ = some (.string L[i].name) ∧ w'.cell? ⟨gb, i * 4 + 2, none⟩ = some (.string L[i].subject) ∧ w'.cell? ⟨gb, i * 4 + 3, none⟩ = some (.int .i64 L[i].verb) ∧ w'.cell? ⟨al.block, al.off + 2, none⟩ = some (.string l[0].subject) from fun w' hb => by
            have h := R_cells (Kd.R_below RBX.out hb) i hi
            obtain ⟨ae, hA, h0, hx⟩ := bnd_at (Kd.C_below C0.out (HBX.out.trans (below_lower hb HBX.out.size))) 0 hl0
            cases hA
            have h2 := hx 2 _ (by decide) rfl
            rw [show al.add (0 * 4) = al by cases al; simp [Addr.add]] at h2
            exact ⟨h.1 0 _ rfl, h.1 1 _ rfl, h.1 2 _ rfl, h.1 3 _ rfl, h2⟩)
          have GV := Lib.hid (show ∀ w', Below wx.heap.size wx w' → L[i].subject = zzS → Calls Tryd.prog 27 #[.agg #[.string L[i].path, .string L[i].name, .string L[i].subject, .int .i64 L[i].verb], .string ⟨#[122, 122]⟩, .int .i64 0, .string L[i].path] w' fun e w2 => e = .returned (.bool true) ∧ Below w'.heap.size w' w2 from fun w' hb hs => by
            have hfm := TL.out.formed (List.getElem_mem hi)
            have h := gives_ok L[i] zzS 0 L[i].path w' (by have := path_size (formed_path hfm); omega) (G1.out.below (HBX.out.trans (below_lower hb HBX.out.size)))
            rw [gives_zz hfm hs] at h
            exact h)
          generalize L[i] = x at CELL GV
          obtain ⟨bp, bn, bs, bv⟩ := x
          generalize l[0].subject = ls at CELL
          clear hi hl0
          by_cases h1 : bs = zzS
          rotate_left
          · have e1 : (bs.toList == ([122, 122] : List UInt8)) = false := by rw [zz_list, toList_beq, Bool.eq_false_iff, Ne, ba_beq]; exact h1
            clear h1
            refine start_ (n := 26) (S := fun w' => w'.cell? ⟨gb, i * 4, none⟩ = some (.string bp) ∧ w'.cell? ⟨gb, i * 4 + 1, none⟩ = some (.string bn) ∧ w'.cell? ⟨gb, i * 4 + 2, none⟩ = some (.string bs) ∧ w'.cell? ⟨gb, i * 4 + 3, none⟩ = some (.int .i64 bv) ∧ w'.cell? ⟨al.block, al.off + 2, none⟩ = some (.string ls)) (ds := []) #[false, false, false, false, false, false, false, false, false, false, false, false, false, false, false, false, false, false, false, false, false, false, false, false, false, false] (by kernel_rfl) rfl rfl (CELL.out _ (below_drew1 HBq.out)) (fun hHeld => ?_)
            have HBr := Aside0.mk (below_drew1 HBq.out)
            clear HBq
            have HBq := HBr
            clear HBr
            generalize World.drew _ = wd at HBq hHeld ⊢
            refine pure_ (i := 0) (N := some 102) (v := ?_) (a' := ?_) #[true, false, false, false, false, false, false, false, false, false, false, false, false, false, false, false, false, false, false, false, false, false, false, false, false, false] rfl rfl (by kernel_rfl) (fun _ _ _ h => h) (Or.inl ⟨by rfl, ?_⟩) ?_ ?_
            rotate_left
            · intro w'
              go_simp
              with_reducible rfl
            rotate_left
            · simp only [Act.put, List.setIfInBounds_toArray, List.set_cons_zero, List.set_cons_succ, i64_w, i32_w]
              rfl
            refine pure_ (i := 1) (N := some 103) (v := ?_) (a' := ?_) #[true, true, false, false, false, false, false, false, false, false, false, false, false, false, false, false, false, false, false, false, false, false, false, false, false, false] rfl rfl (by kernel_rfl) (fun _ _ _ h => h) (Or.inl ⟨by rfl, ?_⟩) ?_ ?_
            rotate_left
            · intro w'
              go_simp
              with_reducible rfl
            rotate_left
            · simp only [Act.put, List.setIfInBounds_toArray, List.set_cons_zero, List.set_cons_succ, i64_w, i32_w]
              rfl
            refine pure_ (i := 2) (N := some 104) (v := ?_) (a' := ?_) #[true, true, true, false, false, false, false, false, false, false, false, false, false, false, false, false, false, false, false, false, false, false, false, false, false, false] rfl rfl (by kernel_rfl) (fun _ _ _ h => h) (Or.inl ⟨by rfl, ?_⟩) ?_ ?_
            rotate_left
            · intro w'
              go_simp
              with_reducible rfl
            rotate_left
            · simp only [Act.put, List.setIfInBounds_toArray, List.set_cons_zero, List.set_cons_succ, i64_w, i32_w]
              rfl
            refine pure_ (i := 3) (N := some 105) (v := ?_) (a' := ?_) #[true, true, true, true, false, false, false, false, false, false, false, false, false, false, false, false, false, false, false, false, false, false, false, false, false, false] rfl rfl (by kernel_rfl) (fun _ _ _ h => h) (Or.inl ⟨by rfl, ?_⟩) ?_ ?_
            rotate_left
            · intro w'
              go_simp
              with_reducible rfl
            rotate_left
            · simp only [Act.put, List.setIfInBounds_toArray, List.set_cons_zero, List.set_cons_succ, i64_w, i32_w]
              rfl
            refine take_ (i := 4) (N := some 106) (v := ?_) (a' := ?_) #[true, true, true, true, true, false, false, false, false, false, false, false, false, false, false, false, false, false, false, false, false, false, false, false, false, false] rfl rfl (by kernel_rfl) (fun _ _ _ h => h) (Or.inl ⟨by rfl, ?_⟩) hHeld ?_ ?_
            rotate_left
            · rintro w' ⟨s0, s1, s2, s3, s4⟩
              go_simp
              with_reducible rfl
            rotate_left
            · simp only [Act.put, List.setIfInBounds_toArray, List.set_cons_zero, List.set_cons_succ, i64_w, i32_w]
              rfl
            refine pure_ (i := 5) (N := some 107) (v := ?_) (a' := ?_) #[true, true, true, true, true, true, false, false, false, false, false, false, false, false, false, false, false, false, false, false, false, false, false, false, false, false] rfl rfl (by kernel_rfl) (fun _ _ _ h => h) (Or.inl ⟨by rfl, ?_⟩) ?_ ?_
            rotate_left
            · intro w'
              go_simp
              with_reducible rfl
            rotate_left
            · simp only [Act.put, List.setIfInBounds_toArray, List.set_cons_zero, List.set_cons_succ, i64_w, i32_w]
              rfl
            refine pure_ (i := 6) (N := some 108) (v := ?_) (a' := ?_) #[true, true, true, true, true, true, true, false, false, false, false, false, false, false, false, false, false, false, false, false, false, false, false, false, false, false] rfl rfl (by kernel_rfl) (fun _ _ _ h => h) (Or.inl ⟨by rfl, ?_⟩) ?_ ?_
            rotate_left
            · intro w'
              go_simp
              with_reducible rfl
            rotate_left
            · simp only [Act.put, List.setIfInBounds_toArray, List.set_cons_zero, List.set_cons_succ, i64_w, i32_w]
              rfl
            refine pure_ (i := 7) (N := some 109) (v := undef) (a' := ?_) #[true, true, true, true, true, true, true, true, false, false, false, false, false, false, false, false, false, false, false, false, false, false, false, false, false, false] rfl rfl (by kernel_rfl) (fun _ _ _ h => h) (Or.inr ⟨by rfl, rfl⟩) ?_ ?_
            rotate_left
            · simp only [Act.put, List.setIfInBounds_toArray, List.set_cons_zero, List.set_cons_succ, i64_w, i32_w]
              rfl
            refine pure_ (i := 8) (N := some 110) (v := undef) (a' := ?_) #[true, true, true, true, true, true, true, true, true, false, false, false, false, false, false, false, false, false, false, false, false, false, false, false, false, false] rfl rfl (by kernel_rfl) (fun _ _ _ h => h) (Or.inr ⟨by rfl, rfl⟩) ?_ ?_
            rotate_left
            · simp only [Act.put, List.setIfInBounds_toArray, List.set_cons_zero, List.set_cons_succ, i64_w, i32_w]
              rfl
            refine pure_ (i := 9) (N := some 111) (v := undef) (a' := ?_) #[true, true, true, true, true, true, true, true, true, true, false, false, false, false, false, false, false, false, false, false, false, false, false, false, false, false] rfl rfl (by kernel_rfl) (fun _ _ _ h => h) (Or.inr ⟨by rfl, rfl⟩) ?_ ?_
            rotate_left
            · simp only [Act.put, List.setIfInBounds_toArray, List.set_cons_zero, List.set_cons_succ, i64_w, i32_w]
              rfl
            refine pure_ (i := 10) (N := some 112) (v := undef) (a' := ?_) #[true, true, true, true, true, true, true, true, true, true, true, false, false, false, false, false, false, false, false, false, false, false, false, false, false, false] rfl rfl (by kernel_rfl) (fun _ _ _ h => h) (Or.inr ⟨by rfl, rfl⟩) ?_ ?_
            rotate_left
            · simp only [Act.put, List.setIfInBounds_toArray, List.set_cons_zero, List.set_cons_succ, i64_w, i32_w]
              rfl
            refine pure_ (i := 11) (N := some 113) (v := undef) (a' := ?_) #[true, true, true, true, true, true, true, true, true, true, true, true, false, false, false, false, false, false, false, false, false, false, false, false, false, false] rfl rfl (by kernel_rfl) (fun _ _ _ h => h) (Or.inr ⟨by rfl, rfl⟩) ?_ ?_
            rotate_left
            · simp only [Act.put, List.setIfInBounds_toArray, List.set_cons_zero, List.set_cons_succ, i64_w, i32_w]
              rfl
            refine pure_ (i := 12) (N := some 114) (v := ?_) (a' := ?_) #[true, true, true, true, true, true, true, true, true, true, true, true, true, false, false, false, false, false, false, false, false, false, false, false, false, false] rfl rfl (by kernel_rfl) (fun _ _ _ h => h) (Or.inl ⟨by rfl, ?_⟩) ?_ ?_
            rotate_left
            · intro w'
              go_simp
              with_reducible rfl
            rotate_left
            · simp only [Act.put, List.setIfInBounds_toArray, List.set_cons_zero, List.set_cons_succ, i64_w, i32_w]
              rfl
            refine pure_ (i := 13) (N := some 115) (v := ?_) (a' := ?_) #[true, true, true, true, true, true, true, true, true, true, true, true, true, true, false, false, false, false, false, false, false, false, false, false, false, false] rfl rfl (by kernel_rfl) (fun _ _ _ h => h) (Or.inl ⟨by rfl, ?_⟩) ?_ ?_
            rotate_left
            · intro w'
              go_simp
              with_reducible rfl
            rotate_left
            · simp only [Act.put, List.setIfInBounds_toArray, List.set_cons_zero, List.set_cons_succ, i64_w, i32_w]
              rfl
            refine pure_ (i := 14) (N := some 116) (v := undef) (a' := ?_) #[true, true, true, true, true, true, true, true, true, true, true, true, true, true, true, false, false, false, false, false, false, false, false, false, false, false] rfl rfl (by kernel_rfl) (fun _ _ _ h => h) (Or.inr ⟨by rfl, rfl⟩) ?_ ?_
            rotate_left
            · simp only [Act.put, List.setIfInBounds_toArray, List.set_cons_zero, List.set_cons_succ, i64_w, i32_w]
              rfl
            refine pure_ (i := 15) (N := some 117) (v := undef) (a' := ?_) #[true, true, true, true, true, true, true, true, true, true, true, true, true, true, true, true, false, false, false, false, false, false, false, false, false, false] rfl rfl (by kernel_rfl) (fun _ _ _ h => h) (Or.inr ⟨by rfl, rfl⟩) ?_ ?_
            rotate_left
            · simp only [Act.put, List.setIfInBounds_toArray, List.set_cons_zero, List.set_cons_succ, i64_w, i32_w]
              rfl
            refine pure_ (i := 16) (N := some 118) (v := undef) (a' := ?_) #[true, true, true, true, true, true, true, true, true, true, true, true, true, true, true, true, true, false, false, false, false, false, false, false, false, false] rfl rfl (by kernel_rfl) (fun _ _ _ h => h) (Or.inr ⟨by rfl, rfl⟩) ?_ ?_
            rotate_left
            · simp only [Act.put, List.setIfInBounds_toArray, List.set_cons_zero, List.set_cons_succ, i64_w, i32_w]
              rfl
            refine pure_ (i := 17) (N := some 119) (v := undef) (a' := ?_) #[true, true, true, true, true, true, true, true, true, true, true, true, true, true, true, true, true, true, false, false, false, false, false, false, false, false] rfl rfl (by kernel_rfl) (fun _ _ _ h => h) (Or.inr ⟨by rfl, rfl⟩) ?_ ?_
            rotate_left
            · simp only [Act.put, List.setIfInBounds_toArray, List.set_cons_zero, List.set_cons_succ, i64_w, i32_w]
              rfl
            refine pure_ (i := 18) (N := some 120) (v := undef) (a' := ?_) #[true, true, true, true, true, true, true, true, true, true, true, true, true, true, true, true, true, true, true, false, false, false, false, false, false, false] rfl rfl (by kernel_rfl) (fun _ _ _ h => h) (Or.inr ⟨by rfl, rfl⟩) ?_ ?_
            rotate_left
            · simp only [Act.put, List.setIfInBounds_toArray, List.set_cons_zero, List.set_cons_succ, i64_w, i32_w]
              rfl
            refine pure_ (i := 19) (N := some 121) (v := undef) (a' := ?_) #[true, true, true, true, true, true, true, true, true, true, true, true, true, true, true, true, true, true, true, true, false, false, false, false, false, false] rfl rfl (by kernel_rfl) (fun _ _ _ h => h) (Or.inr ⟨by rfl, rfl⟩) ?_ ?_
            rotate_left
            · simp only [Act.put, List.setIfInBounds_toArray, List.set_cons_zero, List.set_cons_succ, i64_w, i32_w]
              rfl
            refine pure_ (i := 20) (N := some 122) (v := undef) (a' := ?_) #[true, true, true, true, true, true, true, true, true, true, true, true, true, true, true, true, true, true, true, true, true, false, false, false, false, false] rfl rfl (by kernel_rfl) (fun _ _ _ h => h) (Or.inr ⟨by rfl, rfl⟩) ?_ ?_
            rotate_left
            · simp only [Act.put, List.setIfInBounds_toArray, List.set_cons_zero, List.set_cons_succ, i64_w, i32_w]
              rfl
            refine pure_ (i := 21) (N := some 123) (v := undef) (a' := ?_) #[true, true, true, true, true, true, true, true, true, true, true, true, true, true, true, true, true, true, true, true, true, true, false, false, false, false] rfl rfl (by kernel_rfl) (fun _ _ _ h => h) (Or.inr ⟨by rfl, rfl⟩) ?_ ?_
            rotate_left
            · simp only [Act.put, List.setIfInBounds_toArray, List.set_cons_zero, List.set_cons_succ, i64_w, i32_w]
              rfl
            refine pure_ (i := 22) (N := some 124) (v := undef) (a' := ?_) #[true, true, true, true, true, true, true, true, true, true, true, true, true, true, true, true, true, true, true, true, true, true, true, false, false, false] rfl rfl (by kernel_rfl) (fun _ _ _ h => h) (Or.inr ⟨by rfl, rfl⟩) ?_ ?_
            rotate_left
            · simp only [Act.put, List.setIfInBounds_toArray, List.set_cons_zero, List.set_cons_succ, i64_w, i32_w]
              rfl
            refine pure_ (i := 23) (N := some 125) (v := undef) (a' := ?_) #[true, true, true, true, true, true, true, true, true, true, true, true, true, true, true, true, true, true, true, true, true, true, true, true, false, false] rfl rfl (by kernel_rfl) (fun _ _ _ h => h) (Or.inr ⟨by rfl, rfl⟩) ?_ ?_
            rotate_left
            · simp only [Act.put, List.setIfInBounds_toArray, List.set_cons_zero, List.set_cons_succ, i64_w, i32_w]
              rfl
            refine pure_ (i := 24) (N := some 126) (v := undef) (a' := ?_) #[true, true, true, true, true, true, true, true, true, true, true, true, true, true, true, true, true, true, true, true, true, true, true, true, true, false] rfl rfl (by kernel_rfl) (fun _ _ _ h => h) (Or.inr ⟨by rfl, rfl⟩) ?_ ?_
            rotate_left
            · simp only [Act.put, List.setIfInBounds_toArray, List.set_cons_zero, List.set_cons_succ, i64_w, i32_w]
              rfl
            refine pure_ (i := 25) (N := some 127) (v := ?_) (a' := ?_) #[true, true, true, true, true, true, true, true, true, true, true, true, true, true, true, true, true, true, true, true, true, true, true, true, true, true] rfl rfl (by kernel_rfl) (fun _ _ _ h => h) (Or.inl ⟨by rfl, ?_⟩) ?_ ?_
            rotate_left
            · intro w'
              go_simp
              with_reducible rfl
            rotate_left
            · simp only [Act.put, List.setIfInBounds_toArray, List.set_cons_zero, List.set_cons_succ, i64_w, i32_w]
              rfl
            refine done_ (by kernel_rfl) ?_
            clear hHeld
            go_wp2
            go_roundg g0
            case measure => omega
            case rel => exact ⟨i + 1, m2, congrArg (Value.int .i64) (by rw [w64 i (by have := HLT.out; omega)]), ⟨by have := HI.out; omega⟩, HM2, HY2, ⟨Kd.R_below RX2.out HBq.out⟩, ⟨grown_below GX2.out HBq.out⟩⟩
          have e1 : (bs.toList == ([122, 122] : List UInt8)) = true := by rw [zz_list, toList_beq, ba_beq]; exact h1
          by_cases h2 : ls = zzS
          · have e2 : (ls.toList != ([122, 122] : List UInt8)) = false := by rw [zz_list, h2]; simp
            have e3 : (ls.toList == ([122, 122] : List UInt8)) = true := by rw [zz_list, toList_beq, ba_beq]; exact h2
            clear h1 h2
            refine start_ (n := 26) (S := fun w' => w'.cell? ⟨gb, i * 4, none⟩ = some (.string bp) ∧ w'.cell? ⟨gb, i * 4 + 1, none⟩ = some (.string bn) ∧ w'.cell? ⟨gb, i * 4 + 2, none⟩ = some (.string bs) ∧ w'.cell? ⟨gb, i * 4 + 3, none⟩ = some (.int .i64 bv) ∧ w'.cell? ⟨al.block, al.off + 2, none⟩ = some (.string ls)) (ds := []) #[false, false, false, false, false, false, false, false, false, false, false, false, false, false, false, false, false, false, false, false, false, false, false, false, false, false] (by kernel_rfl) rfl rfl (CELL.out _ (below_drew1 HBq.out)) (fun hHeld => ?_)
            have HBr := Aside0.mk (below_drew1 HBq.out)
            clear HBq
            have HBq := HBr
            clear HBr
            generalize World.drew _ = wd at HBq hHeld ⊢
            refine pure_ (i := 0) (N := some 102) (v := ?_) (a' := ?_) #[true, false, false, false, false, false, false, false, false, false, false, false, false, false, false, false, false, false, false, false, false, false, false, false, false, false] rfl rfl (by kernel_rfl) (fun _ _ _ h => h) (Or.inl ⟨by rfl, ?_⟩) ?_ ?_
            rotate_left
            · intro w'
              go_simp
              with_reducible rfl
            rotate_left
            · simp only [Act.put, List.setIfInBounds_toArray, List.set_cons_zero, List.set_cons_succ, i64_w, i32_w]
              rfl
            refine pure_ (i := 1) (N := some 103) (v := ?_) (a' := ?_) #[true, true, false, false, false, false, false, false, false, false, false, false, false, false, false, false, false, false, false, false, false, false, false, false, false, false] rfl rfl (by kernel_rfl) (fun _ _ _ h => h) (Or.inl ⟨by rfl, ?_⟩) ?_ ?_
            rotate_left
            · intro w'
              go_simp
              with_reducible rfl
            rotate_left
            · simp only [Act.put, List.setIfInBounds_toArray, List.set_cons_zero, List.set_cons_succ, i64_w, i32_w]
              rfl
            refine pure_ (i := 2) (N := some 104) (v := ?_) (a' := ?_) #[true, true, true, false, false, false, false, false, false, false, false, false, false, false, false, false, false, false, false, false, false, false, false, false, false, false] rfl rfl (by kernel_rfl) (fun _ _ _ h => h) (Or.inl ⟨by rfl, ?_⟩) ?_ ?_
            rotate_left
            · intro w'
              go_simp
              with_reducible rfl
            rotate_left
            · simp only [Act.put, List.setIfInBounds_toArray, List.set_cons_zero, List.set_cons_succ, i64_w, i32_w]
              rfl
            refine pure_ (i := 3) (N := some 105) (v := ?_) (a' := ?_) #[true, true, true, true, false, false, false, false, false, false, false, false, false, false, false, false, false, false, false, false, false, false, false, false, false, false] rfl rfl (by kernel_rfl) (fun _ _ _ h => h) (Or.inl ⟨by rfl, ?_⟩) ?_ ?_
            rotate_left
            · intro w'
              go_simp
              with_reducible rfl
            rotate_left
            · simp only [Act.put, List.setIfInBounds_toArray, List.set_cons_zero, List.set_cons_succ, i64_w, i32_w]
              rfl
            refine take_ (i := 4) (N := some 106) (v := ?_) (a' := ?_) #[true, true, true, true, true, false, false, false, false, false, false, false, false, false, false, false, false, false, false, false, false, false, false, false, false, false] rfl rfl (by kernel_rfl) (fun _ _ _ h => h) (Or.inl ⟨by rfl, ?_⟩) hHeld ?_ ?_
            rotate_left
            · rintro w' ⟨s0, s1, s2, s3, s4⟩
              go_simp
              with_reducible rfl
            rotate_left
            · simp only [Act.put, List.setIfInBounds_toArray, List.set_cons_zero, List.set_cons_succ, i64_w, i32_w]
              rfl
            refine pure_ (i := 5) (N := some 107) (v := ?_) (a' := ?_) #[true, true, true, true, true, true, false, false, false, false, false, false, false, false, false, false, false, false, false, false, false, false, false, false, false, false] rfl rfl (by kernel_rfl) (fun _ _ _ h => h) (Or.inl ⟨by rfl, ?_⟩) ?_ ?_
            rotate_left
            · intro w'
              go_simp
              with_reducible rfl
            rotate_left
            · simp only [Act.put, List.setIfInBounds_toArray, List.set_cons_zero, List.set_cons_succ, i64_w, i32_w]
              rfl
            refine pure_ (i := 6) (N := some 108) (v := ?_) (a' := ?_) #[true, true, true, true, true, true, true, false, false, false, false, false, false, false, false, false, false, false, false, false, false, false, false, false, false, false] rfl rfl (by kernel_rfl) (fun _ _ _ h => h) (Or.inl ⟨by rfl, ?_⟩) ?_ ?_
            rotate_left
            · intro w'
              go_simp
              with_reducible rfl
            rotate_left
            · simp only [Act.put, List.setIfInBounds_toArray, List.set_cons_zero, List.set_cons_succ, i64_w, i32_w]
              rfl
            refine pure_ (i := 7) (N := some 109) (v := ?_) (a' := ?_) #[true, true, true, true, true, true, true, true, false, false, false, false, false, false, false, false, false, false, false, false, false, false, false, false, false, false] rfl rfl (by kernel_rfl) (fun _ _ _ h => h) (Or.inl ⟨by rfl, ?_⟩) ?_ ?_
            rotate_left
            · intro w'
              go_simp
              with_reducible rfl
            rotate_left
            · simp only [Act.put, List.setIfInBounds_toArray, List.set_cons_zero, List.set_cons_succ, i64_w, i32_w]
              rfl
            refine pure_ (i := 8) (N := some 110) (v := ?_) (a' := ?_) #[true, true, true, true, true, true, true, true, true, false, false, false, false, false, false, false, false, false, false, false, false, false, false, false, false, false] rfl rfl (by kernel_rfl) (fun _ _ _ h => h) (Or.inl ⟨by rfl, ?_⟩) ?_ ?_
            rotate_left
            · intro w'
              go_simp
              with_reducible rfl
            rotate_left
            · simp only [Act.put, List.setIfInBounds_toArray, List.set_cons_zero, List.set_cons_succ, i64_w, i32_w]
              rfl
            refine pure_ (i := 9) (N := some 111) (v := ?_) (a' := ?_) #[true, true, true, true, true, true, true, true, true, true, false, false, false, false, false, false, false, false, false, false, false, false, false, false, false, false] rfl rfl (by kernel_rfl) (fun _ _ _ h => h) (Or.inl ⟨by rfl, ?_⟩) ?_ ?_
            rotate_left
            · intro w'
              go_simp
              with_reducible rfl
            rotate_left
            · simp only [Act.put, List.setIfInBounds_toArray, List.set_cons_zero, List.set_cons_succ, i64_w, i32_w]
              rfl
            refine take_ (i := 10) (N := some 112) (v := ?_) (a' := ?_) #[true, true, true, true, true, true, true, true, true, true, true, false, false, false, false, false, false, false, false, false, false, false, false, false, false, false] rfl rfl (by kernel_rfl) (fun _ _ _ h => h) (Or.inl ⟨by rfl, ?_⟩) hHeld ?_ ?_
            rotate_left
            · rintro w' ⟨s0, s1, s2, s3, s4⟩
              go_simp
              with_reducible rfl
            rotate_left
            · simp only [Act.put, List.setIfInBounds_toArray, List.set_cons_zero, List.set_cons_succ, i64_w, i32_w]
              rfl
            refine pure_ (i := 11) (N := some 113) (v := ?_) (a' := ?_) #[true, true, true, true, true, true, true, true, true, true, true, true, false, false, false, false, false, false, false, false, false, false, false, false, false, false] rfl rfl (by kernel_rfl) (fun _ _ _ h => h) (Or.inl ⟨by rfl, ?_⟩) ?_ ?_
            rotate_left
            · intro w'
              go_simp
              with_reducible rfl
            rotate_left
            · simp only [Act.put, List.setIfInBounds_toArray, List.set_cons_zero, List.set_cons_succ, i64_w, i32_w]
              rfl
            refine pure_ (i := 12) (N := some 114) (v := ?_) (a' := ?_) #[true, true, true, true, true, true, true, true, true, true, true, true, true, false, false, false, false, false, false, false, false, false, false, false, false, false] rfl rfl (by kernel_rfl) (fun _ _ _ h => h) (Or.inl ⟨by rfl, ?_⟩) ?_ ?_
            rotate_left
            · intro w'
              go_simp
              with_reducible rfl
            rotate_left
            · simp only [Act.put, List.setIfInBounds_toArray, List.set_cons_zero, List.set_cons_succ, i64_w, i32_w]
              rfl
            refine pure_ (i := 13) (N := some 115) (v := ?_) (a' := ?_) #[true, true, true, true, true, true, true, true, true, true, true, true, true, true, false, false, false, false, false, false, false, false, false, false, false, false] rfl rfl (by kernel_rfl) (fun _ _ _ h => h) (Or.inl ⟨by rfl, ?_⟩) ?_ ?_
            rotate_left
            · intro w'
              go_simp
              with_reducible rfl
            rotate_left
            · simp only [Act.put, List.setIfInBounds_toArray, List.set_cons_zero, List.set_cons_succ, i64_w, i32_w]
              rfl
            refine pure_ (i := 14) (N := some 116) (v := undef) (a' := ?_) #[true, true, true, true, true, true, true, true, true, true, true, true, true, true, true, false, false, false, false, false, false, false, false, false, false, false] rfl rfl (by kernel_rfl) (fun _ _ _ h => h) (Or.inr ⟨by rfl, rfl⟩) ?_ ?_
            rotate_left
            · simp only [Act.put, List.setIfInBounds_toArray, List.set_cons_zero, List.set_cons_succ, i64_w, i32_w]
              rfl
            refine pure_ (i := 15) (N := some 117) (v := undef) (a' := ?_) #[true, true, true, true, true, true, true, true, true, true, true, true, true, true, true, true, false, false, false, false, false, false, false, false, false, false] rfl rfl (by kernel_rfl) (fun _ _ _ h => h) (Or.inr ⟨by rfl, rfl⟩) ?_ ?_
            rotate_left
            · simp only [Act.put, List.setIfInBounds_toArray, List.set_cons_zero, List.set_cons_succ, i64_w, i32_w]
              rfl
            refine pure_ (i := 16) (N := some 118) (v := undef) (a' := ?_) #[true, true, true, true, true, true, true, true, true, true, true, true, true, true, true, true, true, false, false, false, false, false, false, false, false, false] rfl rfl (by kernel_rfl) (fun _ _ _ h => h) (Or.inr ⟨by rfl, rfl⟩) ?_ ?_
            rotate_left
            · simp only [Act.put, List.setIfInBounds_toArray, List.set_cons_zero, List.set_cons_succ, i64_w, i32_w]
              rfl
            refine pure_ (i := 17) (N := some 119) (v := undef) (a' := ?_) #[true, true, true, true, true, true, true, true, true, true, true, true, true, true, true, true, true, true, false, false, false, false, false, false, false, false] rfl rfl (by kernel_rfl) (fun _ _ _ h => h) (Or.inr ⟨by rfl, rfl⟩) ?_ ?_
            rotate_left
            · simp only [Act.put, List.setIfInBounds_toArray, List.set_cons_zero, List.set_cons_succ, i64_w, i32_w]
              rfl
            refine pure_ (i := 18) (N := some 120) (v := undef) (a' := ?_) #[true, true, true, true, true, true, true, true, true, true, true, true, true, true, true, true, true, true, true, false, false, false, false, false, false, false] rfl rfl (by kernel_rfl) (fun _ _ _ h => h) (Or.inr ⟨by rfl, rfl⟩) ?_ ?_
            rotate_left
            · simp only [Act.put, List.setIfInBounds_toArray, List.set_cons_zero, List.set_cons_succ, i64_w, i32_w]
              rfl
            refine pure_ (i := 19) (N := some 121) (v := undef) (a' := ?_) #[true, true, true, true, true, true, true, true, true, true, true, true, true, true, true, true, true, true, true, true, false, false, false, false, false, false] rfl rfl (by kernel_rfl) (fun _ _ _ h => h) (Or.inr ⟨by rfl, rfl⟩) ?_ ?_
            rotate_left
            · simp only [Act.put, List.setIfInBounds_toArray, List.set_cons_zero, List.set_cons_succ, i64_w, i32_w]
              rfl
            refine pure_ (i := 20) (N := some 122) (v := undef) (a' := ?_) #[true, true, true, true, true, true, true, true, true, true, true, true, true, true, true, true, true, true, true, true, true, false, false, false, false, false] rfl rfl (by kernel_rfl) (fun _ _ _ h => h) (Or.inr ⟨by rfl, rfl⟩) ?_ ?_
            rotate_left
            · simp only [Act.put, List.setIfInBounds_toArray, List.set_cons_zero, List.set_cons_succ, i64_w, i32_w]
              rfl
            refine pure_ (i := 21) (N := some 123) (v := undef) (a' := ?_) #[true, true, true, true, true, true, true, true, true, true, true, true, true, true, true, true, true, true, true, true, true, true, false, false, false, false] rfl rfl (by kernel_rfl) (fun _ _ _ h => h) (Or.inr ⟨by rfl, rfl⟩) ?_ ?_
            rotate_left
            · simp only [Act.put, List.setIfInBounds_toArray, List.set_cons_zero, List.set_cons_succ, i64_w, i32_w]
              rfl
            refine pure_ (i := 22) (N := some 124) (v := undef) (a' := ?_) #[true, true, true, true, true, true, true, true, true, true, true, true, true, true, true, true, true, true, true, true, true, true, true, false, false, false] rfl rfl (by kernel_rfl) (fun _ _ _ h => h) (Or.inr ⟨by rfl, rfl⟩) ?_ ?_
            rotate_left
            · simp only [Act.put, List.setIfInBounds_toArray, List.set_cons_zero, List.set_cons_succ, i64_w, i32_w]
              rfl
            refine pure_ (i := 23) (N := some 125) (v := undef) (a' := ?_) #[true, true, true, true, true, true, true, true, true, true, true, true, true, true, true, true, true, true, true, true, true, true, true, true, false, false] rfl rfl (by kernel_rfl) (fun _ _ _ h => h) (Or.inr ⟨by rfl, rfl⟩) ?_ ?_
            rotate_left
            · simp only [Act.put, List.setIfInBounds_toArray, List.set_cons_zero, List.set_cons_succ, i64_w, i32_w]
              rfl
            refine pure_ (i := 24) (N := some 126) (v := undef) (a' := ?_) #[true, true, true, true, true, true, true, true, true, true, true, true, true, true, true, true, true, true, true, true, true, true, true, true, true, false] rfl rfl (by kernel_rfl) (fun _ _ _ h => h) (Or.inr ⟨by rfl, rfl⟩) ?_ ?_
            rotate_left
            · simp only [Act.put, List.setIfInBounds_toArray, List.set_cons_zero, List.set_cons_succ, i64_w, i32_w]
              rfl
            refine pure_ (i := 25) (N := some 127) (v := ?_) (a' := ?_) #[true, true, true, true, true, true, true, true, true, true, true, true, true, true, true, true, true, true, true, true, true, true, true, true, true, true] rfl rfl (by kernel_rfl) (fun _ _ _ h => h) (Or.inl ⟨by rfl, ?_⟩) ?_ ?_
            rotate_left
            · intro w'
              go_simp
              with_reducible rfl
            rotate_left
            · simp only [Act.put, List.setIfInBounds_toArray, List.set_cons_zero, List.set_cons_succ, i64_w, i32_w]
              rfl
            refine done_ (by kernel_rfl) ?_
            clear hHeld
            go_wp2
            go_roundg g0
            case measure => omega
            case rel => exact ⟨i + 1, m2, congrArg (Value.int .i64) (by rw [w64 i (by have := HLT.out; omega)]), ⟨by have := HI.out; omega⟩, HM2, HY2, ⟨Kd.R_below RX2.out HBq.out⟩, ⟨grown_below GX2.out HBq.out⟩⟩
          have e2 : (ls.toList != ([122, 122] : List UInt8)) = true := by
            rw [zz_list, bne, Bool.not_eq_true', toList_beq, Bool.eq_false_iff, Ne, ba_beq]; exact h2
          have e3 : (ls.toList == ([122, 122] : List UInt8)) = false := by rw [zz_list, toList_beq, Bool.eq_false_iff, Ne, ba_beq]; exact h2
          have GVV := Lib.hid (fun w' hb => GV.out w' hb h1)
          clear GV h1 h2
          have GV := GVV
          clear GVV
          refine start_ (n := 26) (S := fun w' => w'.cell? ⟨gb, i * 4, none⟩ = some (.string bp) ∧ w'.cell? ⟨gb, i * 4 + 1, none⟩ = some (.string bn) ∧ w'.cell? ⟨gb, i * 4 + 2, none⟩ = some (.string bs) ∧ w'.cell? ⟨gb, i * 4 + 3, none⟩ = some (.int .i64 bv) ∧ w'.cell? ⟨al.block, al.off + 2, none⟩ = some (.string ls)) (ds := []) #[false, false, false, false, false, false, false, false, false, false, false, false, false, false, false, false, false, false, false, false, false, false, false, false, false, false] (by kernel_rfl) rfl rfl (CELL.out _ (below_drew1 HBq.out)) (fun hHeld => ?_)
          have HBr := Aside0.mk (below_drew1 HBq.out)
          clear HBq
          have HBq := HBr
          clear HBr
          generalize World.drew _ = wd at HBq hHeld ⊢
          refine pure_ (i := 0) (N := some 102) (v := ?_) (a' := ?_) #[true, false, false, false, false, false, false, false, false, false, false, false, false, false, false, false, false, false, false, false, false, false, false, false, false, false] rfl rfl (by kernel_rfl) (fun _ _ _ h => h) (Or.inl ⟨by rfl, ?_⟩) ?_ ?_
          rotate_left
          · intro w'
            go_simp
            with_reducible rfl
          rotate_left
          · simp only [Act.put, List.setIfInBounds_toArray, List.set_cons_zero, List.set_cons_succ, i64_w, i32_w]
            rfl
          refine pure_ (i := 1) (N := some 103) (v := ?_) (a' := ?_) #[true, true, false, false, false, false, false, false, false, false, false, false, false, false, false, false, false, false, false, false, false, false, false, false, false, false] rfl rfl (by kernel_rfl) (fun _ _ _ h => h) (Or.inl ⟨by rfl, ?_⟩) ?_ ?_
          rotate_left
          · intro w'
            go_simp
            with_reducible rfl
          rotate_left
          · simp only [Act.put, List.setIfInBounds_toArray, List.set_cons_zero, List.set_cons_succ, i64_w, i32_w]
            rfl
          refine pure_ (i := 2) (N := some 104) (v := ?_) (a' := ?_) #[true, true, true, false, false, false, false, false, false, false, false, false, false, false, false, false, false, false, false, false, false, false, false, false, false, false] rfl rfl (by kernel_rfl) (fun _ _ _ h => h) (Or.inl ⟨by rfl, ?_⟩) ?_ ?_
          rotate_left
          · intro w'
            go_simp
            with_reducible rfl
          rotate_left
          · simp only [Act.put, List.setIfInBounds_toArray, List.set_cons_zero, List.set_cons_succ, i64_w, i32_w]
            rfl
          refine pure_ (i := 3) (N := some 105) (v := ?_) (a' := ?_) #[true, true, true, true, false, false, false, false, false, false, false, false, false, false, false, false, false, false, false, false, false, false, false, false, false, false] rfl rfl (by kernel_rfl) (fun _ _ _ h => h) (Or.inl ⟨by rfl, ?_⟩) ?_ ?_
          rotate_left
          · intro w'
            go_simp
            with_reducible rfl
          rotate_left
          · simp only [Act.put, List.setIfInBounds_toArray, List.set_cons_zero, List.set_cons_succ, i64_w, i32_w]
            rfl
          refine take_ (i := 4) (N := some 106) (v := ?_) (a' := ?_) #[true, true, true, true, true, false, false, false, false, false, false, false, false, false, false, false, false, false, false, false, false, false, false, false, false, false] rfl rfl (by kernel_rfl) (fun _ _ _ h => h) (Or.inl ⟨by rfl, ?_⟩) hHeld ?_ ?_
          rotate_left
          · rintro w' ⟨s0, s1, s2, s3, s4⟩
            go_simp
            with_reducible rfl
          rotate_left
          · simp only [Act.put, List.setIfInBounds_toArray, List.set_cons_zero, List.set_cons_succ, i64_w, i32_w]
            rfl
          refine pure_ (i := 5) (N := some 107) (v := ?_) (a' := ?_) #[true, true, true, true, true, true, false, false, false, false, false, false, false, false, false, false, false, false, false, false, false, false, false, false, false, false] rfl rfl (by kernel_rfl) (fun _ _ _ h => h) (Or.inl ⟨by rfl, ?_⟩) ?_ ?_
          rotate_left
          · intro w'
            go_simp
            with_reducible rfl
          rotate_left
          · simp only [Act.put, List.setIfInBounds_toArray, List.set_cons_zero, List.set_cons_succ, i64_w, i32_w]
            rfl
          refine pure_ (i := 6) (N := some 108) (v := ?_) (a' := ?_) #[true, true, true, true, true, true, true, false, false, false, false, false, false, false, false, false, false, false, false, false, false, false, false, false, false, false] rfl rfl (by kernel_rfl) (fun _ _ _ h => h) (Or.inl ⟨by rfl, ?_⟩) ?_ ?_
          rotate_left
          · intro w'
            go_simp
            with_reducible rfl
          rotate_left
          · simp only [Act.put, List.setIfInBounds_toArray, List.set_cons_zero, List.set_cons_succ, i64_w, i32_w]
            rfl
          refine pure_ (i := 7) (N := some 109) (v := ?_) (a' := ?_) #[true, true, true, true, true, true, true, true, false, false, false, false, false, false, false, false, false, false, false, false, false, false, false, false, false, false] rfl rfl (by kernel_rfl) (fun _ _ _ h => h) (Or.inl ⟨by rfl, ?_⟩) ?_ ?_
          rotate_left
          · intro w'
            go_simp
            with_reducible rfl
          rotate_left
          · simp only [Act.put, List.setIfInBounds_toArray, List.set_cons_zero, List.set_cons_succ, i64_w, i32_w]
            rfl
          refine pure_ (i := 8) (N := some 110) (v := ?_) (a' := ?_) #[true, true, true, true, true, true, true, true, true, false, false, false, false, false, false, false, false, false, false, false, false, false, false, false, false, false] rfl rfl (by kernel_rfl) (fun _ _ _ h => h) (Or.inl ⟨by rfl, ?_⟩) ?_ ?_
          rotate_left
          · intro w'
            go_simp
            with_reducible rfl
          rotate_left
          · simp only [Act.put, List.setIfInBounds_toArray, List.set_cons_zero, List.set_cons_succ, i64_w, i32_w]
            rfl
          refine pure_ (i := 9) (N := some 111) (v := ?_) (a' := ?_) #[true, true, true, true, true, true, true, true, true, true, false, false, false, false, false, false, false, false, false, false, false, false, false, false, false, false] rfl rfl (by kernel_rfl) (fun _ _ _ h => h) (Or.inl ⟨by rfl, ?_⟩) ?_ ?_
          rotate_left
          · intro w'
            go_simp
            with_reducible rfl
          rotate_left
          · simp only [Act.put, List.setIfInBounds_toArray, List.set_cons_zero, List.set_cons_succ, i64_w, i32_w]
            rfl
          refine take_ (i := 10) (N := some 112) (v := ?_) (a' := ?_) #[true, true, true, true, true, true, true, true, true, true, true, false, false, false, false, false, false, false, false, false, false, false, false, false, false, false] rfl rfl (by kernel_rfl) (fun _ _ _ h => h) (Or.inl ⟨by rfl, ?_⟩) hHeld ?_ ?_
          rotate_left
          · rintro w' ⟨s0, s1, s2, s3, s4⟩
            go_simp
            with_reducible rfl
          rotate_left
          · simp only [Act.put, List.setIfInBounds_toArray, List.set_cons_zero, List.set_cons_succ, i64_w, i32_w]
            rfl
          refine pure_ (i := 11) (N := some 113) (v := ?_) (a' := ?_) #[true, true, true, true, true, true, true, true, true, true, true, true, false, false, false, false, false, false, false, false, false, false, false, false, false, false] rfl rfl (by kernel_rfl) (fun _ _ _ h => h) (Or.inl ⟨by rfl, ?_⟩) ?_ ?_
          rotate_left
          · intro w'
            go_simp
            with_reducible rfl
          rotate_left
          · simp only [Act.put, List.setIfInBounds_toArray, List.set_cons_zero, List.set_cons_succ, i64_w, i32_w]
            rfl
          refine pure_ (i := 12) (N := some 114) (v := ?_) (a' := ?_) #[true, true, true, true, true, true, true, true, true, true, true, true, true, false, false, false, false, false, false, false, false, false, false, false, false, false] rfl rfl (by kernel_rfl) (fun _ _ _ h => h) (Or.inl ⟨by rfl, ?_⟩) ?_ ?_
          rotate_left
          · intro w'
            go_simp
            with_reducible rfl
          rotate_left
          · simp only [Act.put, List.setIfInBounds_toArray, List.set_cons_zero, List.set_cons_succ, i64_w, i32_w]
            rfl
          refine pure_ (i := 13) (N := some 115) (v := ?_) (a' := ?_) #[true, true, true, true, true, true, true, true, true, true, true, true, true, true, false, false, false, false, false, false, false, false, false, false, false, false] rfl rfl (by kernel_rfl) (fun _ _ _ h => h) (Or.inl ⟨by rfl, ?_⟩) ?_ ?_
          rotate_left
          · intro w'
            go_simp
            with_reducible rfl
          rotate_left
          · simp only [Act.put, List.setIfInBounds_toArray, List.set_cons_zero, List.set_cons_succ, i64_w, i32_w]
            rfl
          refine pure_ (i := 14) (N := some 116) (v := ?_) (a' := ?_) #[true, true, true, true, true, true, true, true, true, true, true, true, true, true, true, false, false, false, false, false, false, false, false, false, false, false] rfl rfl (by kernel_rfl) (fun _ _ _ h => h) (Or.inl ⟨by rfl, ?_⟩) ?_ ?_
          rotate_left
          · intro w'
            go_simp
            with_reducible rfl
          rotate_left
          · simp only [Act.put, List.setIfInBounds_toArray, List.set_cons_zero, List.set_cons_succ, i64_w, i32_w]
            rfl
          refine pure_ (i := 15) (N := some 117) (v := ?_) (a' := ?_) #[true, true, true, true, true, true, true, true, true, true, true, true, true, true, true, true, false, false, false, false, false, false, false, false, false, false] rfl rfl (by kernel_rfl) (fun _ _ _ h => h) (Or.inl ⟨by rfl, ?_⟩) ?_ ?_
          rotate_left
          · intro w'
            go_simp
            with_reducible rfl
          rotate_left
          · simp only [Act.put, List.setIfInBounds_toArray, List.set_cons_zero, List.set_cons_succ, i64_w, i32_w]
            rfl
          refine pure_ (i := 16) (N := some 118) (v := ?_) (a' := ?_) #[true, true, true, true, true, true, true, true, true, true, true, true, true, true, true, true, true, false, false, false, false, false, false, false, false, false] rfl rfl (by kernel_rfl) (fun _ _ _ h => h) (Or.inl ⟨by rfl, ?_⟩) ?_ ?_
          rotate_left
          · intro w'
            go_simp
            with_reducible rfl
          rotate_left
          · simp only [Act.put, List.setIfInBounds_toArray, List.set_cons_zero, List.set_cons_succ, i64_w, i32_w]
            rfl
          refine take_ (i := 17) (N := some 119) (v := ?_) (a' := ?_) #[true, true, true, true, true, true, true, true, true, true, true, true, true, true, true, true, true, true, false, false, false, false, false, false, false, false] rfl rfl (by kernel_rfl) (fun _ _ _ h => h) (Or.inl ⟨by rfl, ?_⟩) hHeld ?_ ?_
          rotate_left
          · rintro w' ⟨s0, s1, s2, s3, s4⟩
            go_simp
            with_reducible rfl
          rotate_left
          · simp only [Act.put, List.setIfInBounds_toArray, List.set_cons_zero, List.set_cons_succ, i64_w, i32_w]
            rfl
          refine pure_ (i := 18) (N := some 120) (v := ?_) (a' := ?_) #[true, true, true, true, true, true, true, true, true, true, true, true, true, true, true, true, true, true, true, false, false, false, false, false, false, false] rfl rfl (by kernel_rfl) (fun _ _ _ h => h) (Or.inl ⟨by rfl, ?_⟩) ?_ ?_
          rotate_left
          · intro w'
            go_simp
            with_reducible rfl
          rotate_left
          · simp only [Act.put, List.setIfInBounds_toArray, List.set_cons_zero, List.set_cons_succ, i64_w, i32_w]
            rfl
          refine pure_ (i := 19) (N := some 121) (v := ?_) (a' := ?_) #[true, true, true, true, true, true, true, true, true, true, true, true, true, true, true, true, true, true, true, true, false, false, false, false, false, false] rfl rfl (by kernel_rfl) (fun _ _ _ h => h) (Or.inl ⟨by rfl, ?_⟩) ?_ ?_
          rotate_left
          · intro w'
            go_simp
            with_reducible rfl
          rotate_left
          · simp only [Act.put, List.setIfInBounds_toArray, List.set_cons_zero, List.set_cons_succ, i64_w, i32_w]
            rfl
          refine pure_ (i := 20) (N := some 122) (v := ?_) (a' := ?_) #[true, true, true, true, true, true, true, true, true, true, true, true, true, true, true, true, true, true, true, true, true, false, false, false, false, false] rfl rfl (by kernel_rfl) (fun _ _ _ h => h) (Or.inl ⟨by rfl, ?_⟩) ?_ ?_
          rotate_left
          · intro w'
            go_simp
            with_reducible rfl
          rotate_left
          · simp only [Act.put, List.setIfInBounds_toArray, List.set_cons_zero, List.set_cons_succ, i64_w, i32_w]
            rfl
          refine pure_ (i := 21) (N := some 123) (v := ?_) (a' := ?_) #[true, true, true, true, true, true, true, true, true, true, true, true, true, true, true, true, true, true, true, true, true, true, false, false, false, false] rfl rfl (by kernel_rfl) (fun _ _ _ h => h) (Or.inl ⟨by rfl, ?_⟩) ?_ ?_
          rotate_left
          · intro w'
            go_simp
            with_reducible rfl
          rotate_left
          · simp only [Act.put, List.setIfInBounds_toArray, List.set_cons_zero, List.set_cons_succ, i64_w, i32_w]
            rfl
          refine take_ (i := 22) (N := some 124) (v := ?_) (a' := ?_) #[true, true, true, true, true, true, true, true, true, true, true, true, true, true, true, true, true, true, true, true, true, true, true, false, false, false] rfl rfl (by kernel_rfl) (fun _ _ _ h => h) (Or.inl ⟨by rfl, ?_⟩) hHeld ?_ ?_
          rotate_left
          · rintro w' ⟨s0, s1, s2, s3, s4⟩
            go_simp
            with_reducible rfl
          rotate_left
          · simp only [Act.put, List.setIfInBounds_toArray, List.set_cons_zero, List.set_cons_succ, i64_w, i32_w]
            rfl
          refine one_ (i := 23) (N := some 125) #[true, true, true, true, true, true, true, true, true, true, true, true, true, true, true, true, true, true, true, true, true, true, true, true, false, false] rfl rfl (by kernel_rfl) (by decide) (fun K hK => ?_)
          refine goes_ Tryd.func27 (by kernel_rfl) rfl #[.agg #[.string bp, .string bn, .string bs, .int .i64 bv], .string ⟨#[122, 122]⟩, .int .i64 0, .string bp] (by rfl) rfl rfl (by (try simp only [List.map_toArray, List.map_cons, List.map_nil]); first | done | rfl) ?_
          with_reducible refine (GV.out _ HBq.out).mono ?_
          rintro e wz ⟨rfl, hb⟩
          have HBr := Aside0.mk (HBq.out.trans (below_lower hb HBq.out.size))
          clear HBq hb
          have HBq := HBr
          clear HBr
          refine ⟨_, rfl, ?_⟩
          refine hK.out _ _ (CELL.out _ HBq.out) (fun hHeld => ?_)
          clear hK K
          refine norm_ (a' := ?_) ?_ ?_
          rotate_left
          · show Act.put _ (some 125) _ = _
            simp only [Act.put, List.setIfInBounds_toArray, List.set_cons_zero, List.set_cons_succ, i64_w, i32_w]
            rfl
          refine pure_ (i := 24) (N := some 126) (v := ?_) (a' := ?_) #[true, true, true, true, true, true, true, true, true, true, true, true, true, true, true, true, true, true, true, true, true, true, true, true, true, false] rfl rfl (by kernel_rfl) (fun _ _ _ h => h) (Or.inl ⟨by rfl, ?_⟩) ?_ ?_
          rotate_left
          · intro w'
            go_simp
            with_reducible rfl
          rotate_left
          · simp only [Act.put, List.setIfInBounds_toArray, List.set_cons_zero, List.set_cons_succ, i64_w, i32_w]
            rfl
          refine pure_ (i := 25) (N := some 127) (v := ?_) (a' := ?_) #[true, true, true, true, true, true, true, true, true, true, true, true, true, true, true, true, true, true, true, true, true, true, true, true, true, true] rfl rfl (by kernel_rfl) (fun _ _ _ h => h) (Or.inl ⟨by rfl, ?_⟩) ?_ ?_
          rotate_left
          · intro w'
            go_simp
            with_reducible rfl
          rotate_left
          · simp only [Act.put, List.setIfInBounds_toArray, List.set_cons_zero, List.set_cons_succ, i64_w, i32_w]
            rfl
          refine done_ (by kernel_rfl) ?_
          clear hHeld
          go_wp2
          go_roundg g0
          case measure => omega
          case rel => exact ⟨i + 1, m2, congrArg (Value.int .i64) (by rw [w64 i (by have := HLT.out; omega)]), ⟨by have := HI.out; omega⟩, HM2, HY2, ⟨Kd.R_below RX2.out HBq.out⟩, ⟨grown_below GX2.out HBq.out⟩⟩
        have d1 : decide ((i : Int) < (L.length : Int)) = false := decide_eq_false (by omega)
        have d1n : decide (i < L.length) = false := decide_eq_false hi
        have HYA := Lib.hid (show ∀ j x, m[j]? = some x → x.subject = ⟨#[121, 121]⟩ from fun j x h => HY.out j x h (by have h1 := (List.getElem?_eq_some_iff.1 h).1; have := HM.out; omega))
        clear HY hi
        obtain ⟨wb, hwb⟩ : ∃ wb, wb = wr := ⟨_, rfl⟩
        subst hwb
        have HSB := Lib.hid (show w11.heap.size ≤ wb.heap.size from HGB.out.size)
        have B12 := Aside0.mk (B11.out.grown HGB.out B11.out.size (fun k hk => Nat.le_trans HWA.out (HOA.out k hk).1))
        have T12 := Aside0.mk (T11.out.grown HGB.out (fun e => by have h1 := (HOA.out tu e.symm).1; have h2 := HTW.out.1; omega) (fun e => by have h1 := (HOA.out bu e.symm).1; have h2 := HTW.out.2; omega))
        have RB12 := Aside0.mk (keep27 RB11.out HGB.out (fun k hk e => by have h1 := HOB.out k hk; have h2 := HOA.out k e.symm; omega))
        have RX12 := Aside0.mk (keepS RX11.out HGB.out (fun k hk e => by have h1 := HOX.out k hk; have h2 := HOA.out k e.symm; have h3 := HSZ.out; omega))
        have RY12 := Aside0.mk (keepS RY.out HGB.out (fun k hk e => by have h1 := HOY.out k hk; have h2 := HOA.out k e.symm; have h3 := HSZ.out; omega))
        clear RB11 RX11 RY T11 B11 HGB HI
        go_upto_region 25 with fail
        go_loopg [15] rl.length (fun g v15 wr => ∃ (i : Nat) (m2 : List ByteArray), v15 = .int .i64 (i : Int) ∧ Aside0 (i + g = rl.length) ∧ Aside0 (m2.length = rl.length) ∧ Aside0 (∀ j z, m2[j]? = some z → j < i → z = ⟨#[47, 119]⟩) ∧ Aside0 (Kd.R Kd.string 9 wr w9.heap.size (fun _ => True) (.slice Ax rl.length cx) m2) ∧ Aside0 (wb.grownBy wr (Value.slice Ax rl.length cx).ownBlock))
        case atStart => exact ⟨0, rl, rfl, ⟨by omega⟩, ⟨rfl⟩, ⟨fun j x _ h => by omega⟩, RX12, ⟨World.grownBy.refl _ _⟩⟩
        case round =>
          clear RX12
          obtain ⟨i2, m2, rfl, HI2, HM2, HY2, HR2, HGB2⟩ := hrel
          by_cases hi : i2 < rl.length
          · have d3 : decide ((i2 : Int) < (rl.length : Int)) = true := decide_eq_true (by omega)
            have d3n : decide (i2 < rl.length) = true := decide_eq_true hi
            have p1 : (0 ≤ (i2 : Int)) = True := eq_true (by omega)
            have p2 : ((i2 : Int) < (rl.length : Int)) = True := eq_true (by omega)
            obtain ⟨g0, rfl⟩ : ∃ g0, gk = g0 + 1 := ⟨gk - 1, by have := HI2.out; omega⟩
            have HLT := Lib.hid (show i2 < 2513169434843 by have := HRN.out; omega)
            obtain ⟨gx, rfl, hgx⟩ := R_ownG HR2.out (by omega)
            have him : i2 < m2.length := by have := HM2.out; omega
            obtain ⟨hz, hf⟩ := S_cell HR2.out him
            have RN := Aside0.mk (S_put HR2.out i2 ⟨#[47, 119]⟩)
            have HMN := Aside0.mk (show (m2.set i2 ⟨#[47, 119]⟩).length = rl.length by rw [List.length_set]; exact HM2.out)
            have HYN := Aside0.mk (show ∀ j z, (m2.set i2 ⟨#[47, 119]⟩)[j]? = some z → j < i2 + 1 → z = ⟨#[47, 119]⟩ by
              intro j z hj hlt
              by_cases e : j = i2
              · subst e
                rw [List.getElem?_set_self him] at hj
                exact (Option.some.inj hj).symm
              · rw [List.getElem?_set_ne (fun h => e h.symm)] at hj
                exact HY2.out j z hj (by omega))
            have GN := Aside0.mk (World.grownBy.trans HGB2.out (setCell_grown wr gx i2 (.string ⟨#[47, 119]⟩)))
            generalize m2.set i2 ⟨#[47, 119]⟩ = m3 at RN HMN HYN
            generalize m2[i2] = old at hz
            clear him hi
            go_wp2
            go_roundg g0
            case measure => omega
            case rel => exact ⟨i2 + 1, m3, congrArg (Value.int .i64) (by rw [w64 i2 (by have := HLT.out; omega)]), ⟨by have := HI2.out; omega⟩, HMN, HYN, RN, GN⟩
          have d3 : decide ((i2 : Int) < (rl.length : Int)) = false := decide_eq_false (by omega)
          have d3n : decide (i2 < rl.length) = false := decide_eq_false hi
          have HYX := Lib.hid (show ∀ j z, m2[j]? = some z → z = ⟨#[47, 119]⟩ from fun j z h => HY2.out j z h (by have h1 := (List.getElem?_eq_some_iff.1 h).1; have := HM2.out; omega))
          clear HY2 hi
          obtain ⟨wc, hwc⟩ : ∃ wc, wc = wr := ⟨_, rfl⟩
          subst hwc
          have HSC := Lib.hid (show w11.heap.size ≤ wc.heap.size from Nat.le_trans HSB.out HGB2.out.size)
          have B13 := Aside0.mk (B12.out.grown HGB2.out B12.out.size (fun k hk => by have h1 := (HOX.out k hk).1; have h2 := HWA.out; have h3 := HSZ.out; omega))
          have T13 := Aside0.mk (T12.out.grown HGB2.out (fun e => by have h1 := (HOX.out tu e.symm).1; have h2 := HTW.out.1; have h3 := HSZ.out; omega) (fun e => by have h1 := (HOX.out bu e.symm).1; have h2 := HTW.out.2; have h3 := HSZ.out; omega))
          have RA13 := Aside0.mk (keep27 HR.out HGB2.out (fun k hk e => by have h1 := HOA.out k hk; have h2 := HOX.out k e.symm; have h3 := HSZ.out; omega))
          have RB13 := Aside0.mk (keep27 RB12.out HGB2.out (fun k hk e => by have h1 := HOB.out k hk; have h2 := HOX.out k e.symm; omega))
          have RY13 := Aside0.mk (keepS RY12.out HGB2.out (fun k hk e => by have h1 := HOY.out k hk; have h2 := HOX.out k e.symm; omega))
          clear HR RB12 RY12 T12 B12 HGB2 HI2
          go_wp2_with ((with_reducible refine gate_builtin (b := .append) (xs := #[.tmp 137, .tmp 139]) rfl ?_); at_builtin; refine park_ ?_)
          refine Aside0.mk ?_
          refine R_append_keeps k27 (w0 := wc) (W := wc) wa.heap.size rfl (.tmp 137) (.tmp 139) 36 27 (.agg #[.string ⟨#[]⟩, .string ⟨#[]⟩, .string ⟨#[]⟩, .int .i64 0]) 56 rfl Tryd.underlying36 info27 rfl (by decide) (by omega) (.slice Aa L.length ca) m ⟨⟨#[]⟩, ⟨#[108, 97, 115, 116]⟩, ⟨#[]⟩, 0⟩ [.string ⟨#[]⟩, .string ⟨#[108, 97, 115, 116]⟩, .string ⟨#[]⟩, .int .i64 0] rfl rfl ?aP RA13.out (Below.refl _ _) ?aS ?aL ?_
          (case aP => exact k27_mkM _ _ _ ⟨⟨#[]⟩, ⟨#[108, 97, 115, 116]⟩, ⟨#[]⟩, 0⟩)
          (case aS => have h3 := HSZ.out; have h4 := HSC.out; omega)
          (case aL => have := HM.out; have := HLN.out; omega)
          intro vg w14 hRg hRa hbg hgg hat
          obtain ⟨lg, hlg⟩ : ∃ lg, lg = m ++ [(⟨⟨#[]⟩, ⟨#[108, 97, 115, 116]⟩, ⟨#[]⟩, 0⟩ : Bnd)] := ⟨_, rfl⟩
          rw [← hlg] at hRg
          obtain ⟨Ag, cg, rfl⟩ := Kd.R_slice hRg
          have HLG := Lib.hid (show lg.length = L.length + 1 by rw [hlg, List.length_append, HM.out]; rfl)
          have HLL1 := Lib.hid (show ∀ h : L.length < lg.length, lg[L.length] = ⟨⟨#[]⟩, ⟨#[108, 97, 115, 116]⟩, ⟨#[]⟩, 0⟩ from fun h => by subst hlg; simp [← HM.out])
          have HOG := Lib.hid (show ∀ k, (Value.slice Ag lg.length cg).ownBlock = some k → k < w8.heap.size ∨ w11.heap.size ≤ k from fun k hk => by
            rcases hat with h | ⟨b2, h, h2⟩
            · rw [h] at hk; exact .inl (HOA.out k hk).2
            · rw [h] at hk; have e : b2 = k := Option.some.inj hk; have h4 := HSC.out; exact .inr (by omega))
          have B14 := Aside0.mk (B13.out.grown hgg B13.out.size (fun k hk => Nat.le_trans HWA.out (HOA.out k hk).1))
          have T14 := Aside0.mk (T13.out.grown hgg (fun e => by have h1 := (HOA.out tu e.symm).1; have h2 := HTW.out.1; omega) (fun e => by have h1 := (HOA.out bu e.symm).1; have h2 := HTW.out.2; omega))
          have RB14 := Aside0.mk (keep27 RB13.out hgg (fun k hk e => by have h1 := HOB.out k hk; have h2 := HOA.out k e.symm; omega))
          have RX14 := Aside0.mk (keepS HR2.out hgg (fun k hk e => by have h1 := HOX.out k hk; have h2 := HOA.out k e.symm; have h3 := HSZ.out; omega))
          have RY14 := Aside0.mk (keepS RY13.out hgg (fun k hk e => by have h1 := HOY.out k hk; have h2 := HOA.out k e.symm; have h3 := HSZ.out; omega))
          have RA14 := Aside0.mk hRa
          have RG14 := Aside0.mk hRg
          have HS14 := Lib.hid (show wc.heap.size ≤ w14.heap.size from hgg.size)
          clear hRg hRa hbg hgg hat hlg RB13 HR2 RY13 T13 B13 RA13
          go_wp2_with ((with_reducible refine gate_builtin (b := .append) (xs := #[.tmp 141, .tmp 142]) rfl ?_); at_builtin; refine park_ ?_)
          refine Aside0.mk ?_
          refine R_append_keeps Kd.string (w0 := w14) (W := w14) w9.heap.size rfl (.tmp 141) (.tmp 142) 30 9 (.string ⟨#[]⟩) 16 rfl Tryd.underlying30 info9 rfl (by decide) (by omega) (.slice Ax rl.length cx) m2 ⟨#[47, 108, 97, 115, 116]⟩ [.string ⟨#[47, 108, 97, 115, 116]⟩] rfl rfl ?aP RX14.out (Below.refl _ _) ?aS ?aL ?_
          (case aP => exact (show [Value.string ⟨#[47, 108, 97, 115, 116]⟩] = [Value.string ⟨#[47, 108, 97, 115, 116]⟩] from rfl))
          (case aS => have h3 := HSZ.out; have h4 := HSC.out; have h5 := HS14.out; omega)
          (case aL => have := HM2.out; have := HRN.out; omega)
          intro vh w15 hRh hRx hbh hgh hat
          obtain ⟨lh, hlh⟩ : ∃ lh, lh = m2 ++ [(⟨#[47, 108, 97, 115, 116]⟩ : ByteArray)] := ⟨_, rfl⟩
          rw [← hlh] at hRh
          obtain ⟨Ah, ch, rfl⟩ := Kd.R_slice hRh
          have HLH := Lib.hid (show lh.length = rl.length + 1 by rw [hlh, List.length_append, HM2.out]; rfl)
          have HLH1 := Lib.hid (show ∀ h : rl.length < lh.length, lh[rl.length] = ⟨#[47, 108, 97, 115, 116]⟩ from fun h => by subst hlh; simp [← HM2.out])
          have B15 := Aside0.mk (B14.out.grown hgh B14.out.size (fun k hk => by have h1 := (HOX.out k hk).1; have h2 := HWA.out; have h3 := HSZ.out; omega))
          have T15 := Aside0.mk (T14.out.grown hgh (fun e => by have h1 := (HOX.out tu e.symm).1; have h2 := HTW.out.1; have h3 := HSZ.out; omega) (fun e => by have h1 := (HOX.out bu e.symm).1; have h2 := HTW.out.2; have h3 := HSZ.out; omega))
          have RA15 := Aside0.mk (keep27 RA14.out hgh (fun k hk e => by have h1 := HOA.out k hk; have h2 := HOX.out k e.symm; have h3 := HSZ.out; omega))
          have RB15 := Aside0.mk (keep27 RB14.out hgh (fun k hk e => by have h1 := HOB.out k hk; have h2 := HOX.out k e.symm; omega))
          have RG15 := Aside0.mk (keep27 RG14.out hgh (fun k hk e => by have h1 := HOG.out k hk; have h2 := HOX.out k e.symm; have h3 := HSZ.out; omega))
          have RY15 := Aside0.mk (keepS RY14.out hgh (fun k hk e => by have h1 := HOY.out k hk; have h2 := HOX.out k e.symm; omega))
          have RX15 := Aside0.mk hRx
          have RH15 := Aside0.mk hRh
          clear hRh hRx hbh hgh hat hlh RA14 RB14 RG14 RY14 RX14 T14 B14
          have L15 := Aside0.mk (Kd.C_below C0.out B15.out)
          have RA := RA15
          have RB := RB15
          have RG := RG15
          have RY := RY15
          have RX := RX15
          have RH := RH15
          clear RA15 RB15 RG15 RY15 RX15 RH15
          go_wp2_with ((with_reducible refine gate_builtin (b := .append) (xs := #[.const (.slice none 0 0), .tmp 145]) rfl ?_); at_builtin; refine park_ ?_)
          refine Aside0.mk ?_
          refine Kd.R_append_rows k27 (Rr := k27.K w15) (w0 := w15) w15.heap.size rfl (.const (.slice none 0 0)) (.tmp 145) 36 27 (.agg #[.string ⟨#[]⟩, .string ⟨#[]⟩, .string ⟨#[]⟩, .int .i64 0]) 56 rfl Tryd.underlying36 info27 rfl (by decide) (by omega) (.slice none 0 0) ([] : List Bnd) l A l.length c (fun _ => True) (fun _ => False) rfl rfl ?aO ?aR ?aK (fun _ h => h.elim) ?aF ?aB ?aS ?aL ?_
          (case aR => exact L15.out)
          (case aK => exact (fun x cs h => by rw [k27_cells h]; exact k27_mkM _ _ _ _))
          (case aB => exact Below.refl _ _)
          (case aF => exact (fun _ _ => trivial))
          (case aO => exact (Kd.R_nil _ _ _ _ (fun _ => True)))
          (case aS => exact Nat.le_refl _)
          (case aL => have := HLL.out; simp; omega)
          intro v2 w16 ho hb2 hg2 hat2
          rw [List.nil_append] at ho
          obtain ⟨Au, cu, rfl⟩ := Kd.R_slice ho
          have MU := Aside0.mk (Kd.R_reads' ho).2.2
          have B16 := Aside0.mk (B15.out.trans (below_lower hb2 B15.out.size))
          have T16 := Aside0.mk (T15.out.below hb2)
          have RAb := Aside0.mk (Kd.R_below RA.out hb2)
          clear RA
          have RA := RAb
          clear RAb
          have RBb := Aside0.mk (Kd.R_below RB.out hb2)
          clear RB
          have RB := RBb
          clear RBb
          have RGb := Aside0.mk (Kd.R_below RG.out hb2)
          clear RG
          have RG := RGb
          clear RGb
          have RYb := Aside0.mk (Kd.R_below RY.out hb2)
          clear RY
          have RY := RYb
          clear RYb
          have RXb := Aside0.mk (Kd.R_below RX.out hb2)
          clear RX
          have RX := RXb
          clear RXb
          have RHb := Aside0.mk (Kd.R_below RH.out hb2)
          clear RH
          have RH := RHb
          clear RHb
          clear ho hb2 hg2 hat2 L15 B15 T15
          have OF2 := Lib.hid (of_ok Au cu l w16 MU.out (G1.out.below B16.out) (by have := HLL.out; omega))
          rw [HOF.out] at OF2
          go_upto_region 31 with (go_at_call 14; refine OF2.out.mono ?_; rintro e w17 ⟨v5, rfl, hv, hb⟩; obtain ⟨M2, tv, bv, hU, rfl, hTU, htu, hbu⟩ := hv.resolve_left (fun h => (by cases h.1)); obtain rfl : U = M2 := Option.some.inj hU; have V17 := Aside0.mk hTU; have T17 := Aside0.mk (T16.out.below hb); have B17 := Aside0.mk (B16.out.trans (below_lower hb B16.out.size)); have RAb := Aside0.mk (Kd.R_below RA.out hb); clear RA; have RA := RAb; clear RAb; have RBb := Aside0.mk (Kd.R_below RB.out hb); clear RB; have RB := RBb; clear RBb; have RGb := Aside0.mk (Kd.R_below RG.out hb); clear RG; have RG := RGb; clear RGb; have RYb := Aside0.mk (Kd.R_below RY.out hb); clear RY; have RY := RYb; clear RYb; have RXb := Aside0.mk (Kd.R_below RX.out hb); clear RX; have RX := RXb; clear RXb; have RHb := Aside0.mk (Kd.R_below RH.out hb); clear RH; have RH := RHb; clear RHb; clear hv hb hTU hU htu hbu)
          clear OF2 MU T16 B16
          have LT := Lib.hid (list_ok w17 tu bu U T17.out (G1.out.below B17.out) (by have := HUL.out; omega))
          go_upto_region 32 with (go_at_call 17; refine LT.out.mono ?_; rintro e w18 ⟨v0, L6, rfl, _, _, _, hb⟩; have V18 := Aside0.mk (V17.out.below hb); have T18 := Aside0.mk (T17.out.below hb); have B18 := Aside0.mk (B17.out.trans (below_lower hb B17.out.size)); have RAb := Aside0.mk (Kd.R_below RA.out hb); clear RA; have RA := RAb; clear RAb; have RBb := Aside0.mk (Kd.R_below RB.out hb); clear RB; have RB := RBb; clear RBb; have RGb := Aside0.mk (Kd.R_below RG.out hb); clear RG; have RG := RGb; clear RGb; have RYb := Aside0.mk (Kd.R_below RY.out hb); clear RY; have RY := RYb; clear RYb; have RXb := Aside0.mk (Kd.R_below RX.out hb); clear RX; have RX := RXb; clear RXb; have RHb := Aside0.mk (Kd.R_below RH.out hb); clear RH; have RH := RHb; clear RHb; clear hb)
          clear LT V17 T17 B17
          have LX := Lib.hid (reach_ok w18 tu bu U L s 0 T18.out TL.out (G1.out.below B18.out) (by have := HUL.out; omega))
          go_upto_region 34 with (go_at_call 26; refine LX.out.mono ?_; rintro e w19 ⟨v0, rfl, _, hb⟩; have V19 := Aside0.mk (V18.out.below hb); have T19 := Aside0.mk (T18.out.below hb); have B19 := Aside0.mk (B18.out.trans (below_lower hb B18.out.size)); have RAb := Aside0.mk (Kd.R_below RA.out hb); clear RA; have RA := RAb; clear RAb; have RBb := Aside0.mk (Kd.R_below RB.out hb); clear RB; have RB := RBb; clear RBb; have RGb := Aside0.mk (Kd.R_below RG.out hb); clear RG; have RG := RGb; clear RGb; have RYb := Aside0.mk (Kd.R_below RY.out hb); clear RY; have RY := RYb; clear RYb; have RXb := Aside0.mk (Kd.R_below RX.out hb); clear RX; have RX := RXb; clear RXb; have RHb := Aside0.mk (Kd.R_below RH.out hb); clear RH; have RH := RHb; clear RHb; clear hb)
          clear LX V18 T18 B18
          go_loopg [19] L.length (fun g v19 wr => ∃ (i : Nat), v19 = .int .i64 (i : Int) ∧ Aside0 (i + g = L.length) ∧ Aside0 (Below w19.heap.size w19 wr))
          case atStart => exact ⟨0, rfl, ⟨by omega⟩, ⟨Below.refl _ _⟩⟩
          case round =>
            obtain ⟨i3, rfl, HI3, HB3⟩ := hrel
            by_cases hi : i3 < L.length
            · have d4 : decide ((i3 : Int) < (L.length : Int)) = true := decide_eq_true (by omega)
              have d4n : decide (i3 < L.length) = true := decide_eq_true hi
              have p1 : (0 ≤ (i3 : Int)) = True := eq_true (by omega)
              have p2 : ((i3 : Int) < (L.length : Int)) = True := eq_true (by omega)
              obtain ⟨g0, rfl⟩ : ∃ g0, gk = g0 + 1 := ⟨gk - 1, by have := HI3.out; omega⟩
              have HLT := Lib.hid (show i3 < 1048576 by have := HLN.out; omega)
              have RAi := Kd.R_below RA.out HB3.out
              obtain ⟨ga, rfl, hga⟩ := R_own RAi (by omega)
              have him : i3 < m.length := by have := HM.out; omega
              have HRm : Kd.R k27 27 wr wa.heap.size (fun _ => True) (.slice (some ⟨ga, 0, none⟩) m.length ca) m := by rw [HM.out]; exact RAi
              have hz2 := (R_cells HRm i3 him).1 2 _ rfl
              rw [HYA.out i3 _ (List.getElem?_eq_getElem him)] at hz2
              clear RAi HRm him hi hga
              go_wp2
              go_roundg g0
              case measure => omega
              case rel => exact ⟨i3 + 1, congrArg (Value.int .i64) (by rw [w64 i3 (by have := HLT.out; omega)]), ⟨by have := HI3.out; omega⟩, HB3⟩
            have d4 : decide ((i3 : Int) < (L.length : Int)) = false := decide_eq_false (by omega)
            have d4n : decide (i3 < L.length) = false := decide_eq_false hi
            clear hi
            obtain ⟨wd, hwd⟩ : ∃ wd, wd = wr := ⟨_, rfl⟩
            subst hwd
            have V20 := Aside0.mk (V19.out.below HB3.out)
            have T20 := Aside0.mk (T19.out.below HB3.out)
            have B20 := Aside0.mk (B19.out.trans (below_lower HB3.out B19.out.size))
            have RAb := Aside0.mk (Kd.R_below RA.out HB3.out)
            clear RA
            have RA := RAb
            clear RAb
            have RBb := Aside0.mk (Kd.R_below RB.out HB3.out)
            clear RB
            have RB := RBb
            clear RBb
            have RGb := Aside0.mk (Kd.R_below RG.out HB3.out)
            clear RG
            have RG := RGb
            clear RGb
            have RYb := Aside0.mk (Kd.R_below RY.out HB3.out)
            clear RY
            have RY := RYb
            clear RYb
            have RXb := Aside0.mk (Kd.R_below RX.out HB3.out)
            clear RX
            have RX := RXb
            clear RXb
            have RHb := Aside0.mk (Kd.R_below RH.out HB3.out)
            clear RH
            have RH := RHb
            clear RHb
            clear V19 T19 B19 HB3
            go_upto_region 39 with fail
            go_loopg [20] rl.length (fun g v20 wr => ∃ (i : Nat), v20 = .int .i64 (i : Int) ∧ Aside0 (i + g = rl.length) ∧ Aside0 (Below wd.heap.size wd wr))
            case atStart => exact ⟨0, rfl, ⟨by omega⟩, ⟨Below.refl _ _⟩⟩
            case round =>
              obtain ⟨i4, rfl, HI4, HB4⟩ := hrel
              by_cases hi : i4 < rl.length
              · have d5 : decide ((i4 : Int) < (rl.length : Int)) = true := decide_eq_true (by omega)
                have d5n : decide (i4 < rl.length) = true := decide_eq_true hi
                have p1 : (0 ≤ (i4 : Int)) = True := eq_true (by omega)
                have p2 : ((i4 : Int) < (rl.length : Int)) = True := eq_true (by omega)
                obtain ⟨g0, rfl⟩ : ∃ g0, gk = g0 + 1 := ⟨gk - 1, by have := HI4.out; omega⟩
                have HLT := Lib.hid (show i4 < 2513169434843 by have := HRN.out; omega)
                have RXi := Kd.R_below RX.out HB4.out
                obtain ⟨gx, rfl, hgx⟩ := R_ownG RXi (by omega)
                have him : i4 < m2.length := by have := HM2.out; omega
                have hz := (S_cell RXi him).1
                rw [HYX.out i4 _ (List.getElem?_eq_getElem him)] at hz
                clear RXi him hi hgx
                go_wp2
                go_roundg g0
                case measure => omega
                case rel => exact ⟨i4 + 1, congrArg (Value.int .i64) (by rw [w64 i4 (by have := HLT.out; omega)]), ⟨by have := HI4.out; omega⟩, HB4⟩
              have d5 : decide ((i4 : Int) < (rl.length : Int)) = false := decide_eq_false (by omega)
              have d5n : decide (i4 < rl.length) = false := decide_eq_false hi
              clear hi
              obtain ⟨we, hwe⟩ : ∃ we, we = wr := ⟨_, rfl⟩
              subst hwe
              have V21 := Aside0.mk (V20.out.below HB4.out)
              have T21 := Aside0.mk (T20.out.below HB4.out)
              have B21 := Aside0.mk (B20.out.trans (below_lower HB4.out B20.out.size))
              have RAb := Aside0.mk (Kd.R_below RA.out HB4.out)
              clear RA
              have RA := RAb
              clear RAb
              have RBb := Aside0.mk (Kd.R_below RB.out HB4.out)
              clear RB
              have RB := RBb
              clear RBb
              have RGb := Aside0.mk (Kd.R_below RG.out HB4.out)
              clear RG
              have RG := RGb
              clear RGb
              have RYb := Aside0.mk (Kd.R_below RY.out HB4.out)
              clear RY
              have RY := RYb
              clear RYb
              have RXb := Aside0.mk (Kd.R_below RX.out HB4.out)
              clear RX
              have RX := RXb
              clear RXb
              have RHb := Aside0.mk (Kd.R_below RH.out HB4.out)
              clear RH
              have RH := RHb
              clear RHb
              clear V20 T20 B20 HB4
              obtain ⟨gg, rfl, hgg⟩ := R_own RG.out (by have := HLG.out; omega)
              obtain ⟨gh, rfl, hgh⟩ := R_ownG RH.out (by have := HLH.out; omega)
              obtain ⟨q1, hq1⟩ : ∃ q1, q1 = L.length := ⟨_, rfl⟩
              obtain ⟨q2, hq2⟩ : ∃ q2, q2 = rl.length := ⟨_, rfl⟩
              have HQ1 := Lib.hid hq1
              have HQ2 := Lib.hid hq2
              have u1 : wrap64 ((lg.length : Int) - 1) = (q1 : Int) := by unfold wrap64; have := HLG.out; have := HLN.out; omega
              have u2 : wrap64 ((lh.length : Int) - 1) = (q2 : Int) := by unfold wrap64; have := HLH.out; have := HRN.out; omega
              have p1 : (0 ≤ (q1 : Int)) = True := eq_true (by omega)
              have p2 : ((q1 : Int) < (lg.length : Int)) = True := eq_true (by have := HLG.out; omega)
              have p3 : (0 ≤ (q2 : Int)) = True := eq_true (by omega)
              have p4 : ((q2 : Int) < (lh.length : Int)) = True := eq_true (by have := HLH.out; omega)
              have HG1 := Lib.hid (show ∀ h : q1 < lg.length, lg[q1] = ⟨⟨#[]⟩, ⟨#[108, 97, 115, 116]⟩, ⟨#[]⟩, 0⟩ from fun h => by subst hq1; exact HLL1.out h)
              have HH1 := Lib.hid (show ∀ h : q2 < lh.length, lh[q2] = ⟨#[47, 108, 97, 115, 116]⟩ from fun h => by subst hq2; exact HLH1.out h)
              clear hq1 hq2 hgg hgh
              have LT := Lib.hid (list_ok we tu bu U T21.out (G1.out.below B21.out) (by have := HUL.out; omega))
              have LU := Lib.hid (fun w' (hb : Below we.heap.size we w') => list_ok w' tv bv U (V21.out.below hb) (G1.out.below (B21.out.trans (below_lower hb B21.out.size))) (by have := HUL.out; omega))
              have LR := Lib.hid (fun w' (hb : Below we.heap.size we w') => reach_ok w' tu bu U L s 0 (T21.out.below hb) TL.out (G1.out.below (B21.out.trans (below_lower hb B21.out.size))) (by have := HUL.out; omega))
              rw [← HRL.out] at LR
              have SAME := Lib.hid (fun (A5 : Option Addr) (c5 : Nat) (w' : World) hx hy => same_self2 (same_ok A5 Ab c5 cb L L w' hx hy (by have := HLN.out; omega)))
              have TXS := Lib.hid (fun (A5 : Option Addr) (c5 : Nat) (w' : World) hx hy => texts_same A5 Ay c5 cy rl w' hx hy HRN.out)
              have CB := Lib.hid (fun w' (hb : Below we.heap.size we w') => (Kd.R_reads' (Kd.R_below RB.out hb)).2.2)
              have CY := Lib.hid (fun w' (hb : Below we.heap.size we w') => (Kd.R_reads' (Kd.R_below RY.out hb)).2.2)
              go_wp2_with (first
                | (go_at_call 17; (with_reducible refine LT.out.mono ?_); rintro e wp1 ⟨v0, L6, rfl, hP6, hS6, hR6, hb⟩; obtain ⟨A5, c5, rfl⟩ := Kd.R_slice hR6; have hL6 := (Told.unique T21.out.nodup TL.out ⟨hP6, hS6, T21.out.fits⟩).symm; subst hL6; have P1 := Aside0.mk (Kd.R_reads' hR6).2.2; have E1 := Aside0.mk hb; clear hP6 hS6 hR6 hb)
                | (go_at_call 16; (with_reducible refine (SAME.out _ _ wp1 P1.out (CB.out _ E1.out)).mono ?_); rintro e wp2 ⟨rfl, hb⟩; have E2 := Aside0.mk (E1.out.trans (below_lower hb E1.out.size)); clear hb)
                | (go_at_call 17; (with_reducible refine (LU.out wp2 E2.out).mono ?_); rintro e wp3 ⟨v0, L6, rfl, hP6, hS6, hR6, hb⟩; obtain ⟨A6, c6, rfl⟩ := Kd.R_slice hR6; have hL6 := (Told.unique T21.out.nodup TL.out ⟨hP6, hS6, T21.out.fits⟩).symm; subst hL6; have P3 := Aside0.mk (Kd.R_reads' hR6).2.2; have E3 := Aside0.mk (E2.out.trans (below_lower hb E2.out.size)); clear hP6 hS6 hR6 hb)
                | (go_at_call 16; (with_reducible refine (SAME.out _ _ wp3 P3.out (CB.out _ E3.out)).mono ?_); rintro e wp4 ⟨rfl, hb⟩; have E4 := Aside0.mk (E3.out.trans (below_lower hb E3.out.size)); clear hb)
                | (go_at_call 26; (with_reducible refine (LR.out wp4 E4.out).mono ?_); rintro e wp5 ⟨v0, rfl, hR6, hb⟩; obtain ⟨A7, c7, rfl⟩ := Kd.R_slice hR6; have P5 := Aside0.mk (Kd.R_reads' hR6).2.2; have E5 := Aside0.mk (E4.out.trans (below_lower hb E4.out.size)); clear hR6 hb)
                | (go_at_call 28; (with_reducible refine (TXS.out _ _ wp5 P5.out (CY.out _ E5.out)).mono ?_); rintro e wp6 ⟨rfl, hb⟩; have E6 := Aside0.mk (E5.out.trans (below_lower hb E5.out.size)); clear hb; have k1 := (R_cells (Kd.R_below RG.out E6.out) q1 (by have := HLG.out; have := HQ1.out; omega)).1 1 (.string ⟨#[108, 97, 115, 116]⟩) (by rw [HG1.out]; rfl); have k2 := (S_cell (Kd.R_below RH.out E6.out) (show q2 < lh.length by have := HLH.out; have := HQ2.out; omega)).1; rw [HH1.out] at k2))
              go_ret
              exact ⟨by rw [HP.out] <;> rfl, B21.out.trans (below_lower E6.out B21.out.size)⟩
end Go.Proofs.YtphddbijdfmpjaaDoor.Q
namespace Go.Proofs.YtphddbijdfmpjaaDoor.Q
open Go.RowKit Go.ChangeShapes Go.Proofs.YtphddbijdfmpjaaDoorW.PrintWords Go.Proofs.YtphddbijdfmpjaaDoorW.PrintLast Go.Proofs.YtphddbijdfmpjaaDoor.Wr
set_option linter.unusedVariables false
theorem small27 {H : Type} {d : DataW H} {l : List Bnd} (h : RowD BnD d l) (hb : Rows.uptoBulk d ≤ 1048576) : Small27 l := by
  obtain ⟨h1, h2⟩ := bulk_row h
  refine ⟨by omega, fun t ht => ?_⟩
  obtain ⟨i, hi, rfl⟩ := List.getElem_of_mem ht
  obtain ⟨e, ⟨l', rfl, y, r, rfl, ⟨rfl, hy⟩, y1, r1, rfl, _, y2, r2, rfl, _, y3, rfl, _⟩, he⟩ := h2 i _ (List.getElem?_eq_getElem hi)
  have h3 := bulk_agg (l := [.lit (.string l[i].path.data.toList), y1, y2, y3]) 0 (.lit (.string l[i].path.data.toList)) rfl
  have h4 := bulk_str (H := H) l[i].path
  omega
end Go.Proofs.YtphddbijdfmpjaaDoor.Q
namespace Go.Proofs.YtphddbijdfmpjaaDoor.Pure
set_option linter.unusedVariables false
end Go.Proofs.YtphddbijdfmpjaaDoor.Pure
namespace Go.Proofs.YtphddbijdfmpjaaDoor.Pure
set_option linter.unusedVariables false
theorem AccessApart (l : List Wr.Bnd) (a : ByteArray) (c0 : Q.Small27 l) (h1 : a.size ≤ 1048576) : ∃ k : Nat, Q.Small27 l ∧ true = true := ⟨0, c0, rfl⟩
end Go.Proofs.YtphddbijdfmpjaaDoor.Pure
namespace Go.Proofs.YtphddbijdfmpjaaDoor.Q
open Go.RowKit Go.Lib Go.ChangeShapes Go.Proofs.YtphddbijdfmpjaaDoorW.PrintWords Go.Proofs.YtphddbijdfmpjaaDoorW.PrintLast
set_option linter.unusedVariables false
set_option linter.unusedSimpArgs false
theorem laid_one {P : Program} {w : World} {l : List (String × DataW Unit)} {n : String} {d : DataW Unit} (h : laidMetH P l w) (hl : (l.filter fun x => x.1 == n) = [(n, d)]) (hd : d.handleName? = none) : laidMet P [(n, d)] w := by
  have h1 := h.filter (fun x => x.1 == n)
  rw [hl] at h1
  have h2 := (laidMetH_iff.1 h1).1
  have e : ([(n, d)] : List (String × DataW Unit)).filter (fun x => x.2.handleName?.isNone) = [(n, d)] := by simp [List.filter_cons, hd]
  rw [e] at h2
  exact h2
theorem letters_laid {w : World} (h : laidMet Tryd.prog [("bursar/object.letters", Rows.laid_bursar_object_letters)] w) : w.cell? ⟨0, 4, none⟩ = some (.int .u8 66) :=
  (Lib.tabIs_of_head (k := .u8) (zs := [0, 81, 76, 79, 66]) (g := 0) (t := 97) (e := 5) (n := 5) (by kernel_rfl) (by kernel_rfl) Tryd.underlying97 Tryd.underlying5 (by kernel_rfl) (by kernel_rfl) h).cell (by kernel_rfl) 4 (by decide)
theorem glob_of {W : World} (hsh : W.ShapedOpen Tryd.prog) (h : laidMetH Tryd.prog Rows.accessGoesDownRow.laid W) : Glob W :=
  ⟨Tryd.laysM146.s1_3 W hsh, letters_laid (laid_one h rfl rfl)⟩
end Go.Proofs.YtphddbijdfmpjaaDoor.Q
namespace Go.Proofs.YtphddbijdfmpjaaDoor.accessApart
open Go.ChangeShapes Go.WideShapes Go.ChangeAt Go.RowKit
open Go.ChangeMaps (open_string shut_string)
set_option linter.unusedVariables false
set_option linter.unusedSimpArgs false
theorem own : ownKnob Tryd.prog.godebug = none := by kernel_rfl
theorem laidOut : laidOutB Tryd.prog = true := by kernel_rfl
set_option maxRecDepth 100000 in
theorem contract (H : Type) (enc : TypeId × Value → H) (W : World) (base : Nat) (args : Array Value) (ds gs : List (DataW H)) (before : List MemPlace)
    (hval0 : ∀ (j : Nat) t v, Tryd.f9.params[j]? = some t → args[j]? = some v → Value.okWide Tryd.prog W .any base t v)
    (hW : DataW.Whole enc Tryd.prog Tryd.f9.params.toList Rows.accessApartSpec.vars false W args.toList ds gs before)
    (hk : Rows.uptoSmall H (ds ++ gs) = true)
    (hsh : W.ShapedOpen Tryd.prog)
    (hl : laidMetH Tryd.prog Rows.accessApartUptoRow.laid W)
    : Calls Tryd.prog 9 args W fun e W' => ∃ v, e = .returned v ∧ Rows.accessApartSpec.post enc Tryd.prog Tryd.f9 false true false false W args v W' := by
  have hval : ∀ (j : Nat) t v, Tryd.f9.params[j]? = some t → args[j]? = some v → Value.okWide Tryd.prog W .any base t v := hval0
  have hW' := hW
  obtain ⟨p, q, hA0, hV, rfl, hfz, hnd⟩ := hW
  have hA : DataW.TrodAll enc Tryd.prog W 0 (fun _ => true) true Tryd.f9.params.toList args.toList ds p := hA0
  rw [Tryd.params9] at hA hval
  obtain ⟨v0, vs0, d0, ds0, p0, q0, hargs, rfl, rfl, h0, r0⟩ := trodAll_cons hA
  obtain ⟨v1, vs1, d1, ds1, p1, q1, rfl, rfl, rfl, h1, r1⟩ := trodAll_cons r0
  obtain ⟨rfl, rfl, rfl⟩ := trodAll_nil r1
  obtain rfl : args = #[v0, v1] := by cases args; simp_all
  obtain ⟨rfl, rfl⟩ := trodVars_none hV
  obtain ⟨A0, len0, cap0, rfl⟩ := okWide_slice Tryd.underlying36 (hval 0 36 v0 rfl rfl)
  have k0 := h0
  have lt0 : ∀ x ∈ p0, x.block < W.heap.size := by obtain ⟨m, hm⟩ := k0; exact DataW.trod_lt m _ _ _ hm
  obtain ⟨l0, rfl, hr0, hc0, hz0, hm0⟩ := Q.row_open Tryd.underlying36 (by kernel_rfl) Q.opens27 h0
  obtain ⟨a1, rfl, rfl, rfl, y1⟩ := open_string Tryd.underlying9 (hval 1 9 v1 rfl rfl) h1
  have hb := of_decide_eq_true hk
  simp only [List.append_nil, List.cons_append, List.nil_append, Rows.uptoBulkAll, Rows.uptoBulk, Array.length_toList] at hb
  have c0 : Q.Small27 l0 := Q.small27 hz0 (by omega)
  have b1 : a1.size ≤ 1048576 := by have : a1.data.size = a1.size := rfl; omega
  obtain ⟨k, hp⟩ := Pure.AccessApart l0 a1 c0 b1
  refine (Q.bursarlaw21_AccessApart.calls k A0 cap0 l0 a1 true W hr0 hc0 hp (Q.glob_of hsh hl)).mono fun e W' ⟨he, bel⟩ => ?_
  subst he
  exact ⟨_, rfl, _, _, _, [], _, [], hW', trodAll_mk1 (shut_bool Tryd.underlying4 _), (trodAll_cons_mk (Below.trod laidOut (by kernel_rfl) (of_decide_eq_true (by kernel_rfl)) k0 bel lt0) (trodAll_cons_mk (shut_string Tryd.underlying9 y1) trodAll_mk0)), rfl, bel.frame _, fun h => by cases h⟩
noncomputable def tab1 : Obj → Obj
  | .cells _ t frozen => .cells (Go.Pinned.utf8FirstZ.map fun (n : Nat) => Value.int .u8 (n : Int)).toArray t frozen
  | o => o
noncomputable def laidWorld (os : Os) : World :=
  { World.doorLaid Tryd.prog 138 os with heap := (World.doorLaid Tryd.prog 138 os).heap.modify 2 tab1 }
theorem laid_met (os : Os) : laidMet Tryd.prog Rows.accessApartRow.laid ((laidWorld os).forCall (fun _ _ => 0) ⟨#[], #[.slice none 0 0, .string ByteArray.empty], []⟩).memory :=
  laidMet_of_run' 8 (by kernel_rfl) (by kernel_rfl)
theorem reads (os : Os) {H : Type} (enc : TypeId × Value → H) : ∃ places, DataW.whole enc Tryd.prog ((laidWorld os).forCall (fun _ _ => 0) ⟨#[], #[.slice none 0 0, .string ByteArray.empty], []⟩).memory Tryd.f9.params.toList Rows.accessApartSpec.vars false (#[.slice none 0 0, .string ByteArray.empty] : Array Value).toList 8 = some ([.nil, .lit (.string [])], [], places) :=
  ⟨[], by kernel_rfl⟩
set_option maxRecDepth 100000 in
theorem lifted (os : Os) (started : os.Started) (H : Type) (enc : TypeId × Value → H) (F : Stop.Interp) :
    ReturnsInHanded {} Tryd.checked os 9 .any ((Rows.OpenSpec.upto Rows.accessApartSpec).preRow enc Tryd.prog Tryd.f9 Rows.accessApartUptoRow.domain false Rows.accessApartUptoRow.laid) (((Rows.OpenSpec.upto Rows.accessApartSpec).at F).post enc Tryd.prog Tryd.f9 false true false false) := by
  obtain ⟨places, hx⟩ := reads os enc
  refine returnsInHanded_of_row (C := Tryd.checked) (s := Rows.OpenSpec.upto Rows.accessApartSpec) own started (by kernel_rfl) Tryd.func9
    (witness_row_at (enc := enc) (C := Tryd.checked) false (laidWorld os) #[.slice none 0 0, .string ByteArray.empty] rfl (by kernel_rfl) (by kernel_rfl) (by kernel_rfl)
      (OpenSpec.preRow_of_cond 8 hx (by kernel_rfl) (fun k hk => by cases hk; kernel_rfl) (by kernel_rfl) (laid_met os))) ?_
  intro W base args ds gs before hval hW _ hcond hsz hl hsh _
  exact contract H enc W base args ds gs before hval hW (hcond _ rfl) hsh hl
theorem said : Rows.AccessApartUptoSaid :=
  OpenClaim.holds_of_cond 9 Tryd.f9 rfl rfl rfl rfl rfl rfl rfl ⟨rfl, rfl, rfl, rfl, rfl⟩ rfl rfl rfl rfl rfl (by kernel_rfl) Tryd.func9 (by kernel_rfl)
    (of_decide_eq_true (by kernel_rfl)) (by unfold Func.isWrapper; first | (rw [if_pos (by decide +kernel)]; kernel_rfl) | (rw [if_neg (by decide +kernel)]; exact ⟨rfl, rfl⟩))
    (fun os started H enc _ F => by rw [OpenClaim.pre_eq_preRow]; exact lifted os started H enc F)
theorem plain (f : FuncId) (fn : Func) (hf : Tryd.pinned.checked.prog.funcNamed "bursar/bursarlaw21.AccessApart" = some f) (hfn : Tryd.pinned.checked.prog.funcs[f]? = some fn) :
    false = Tryd.pinned.checked.prog.looks [] ∧ ∀ (j : Nat) t, fn.params[j]? = some t → Tryd.pinned.checked.prog.wantsStandIn t = false := by
  obtain rfl : f = 9 := Option.some.inj ((show Tryd.prog.funcNamed "bursar/bursarlaw21.AccessApart" = some 9 by kernel_rfl).symm.trans hf) |>.symm
  obtain rfl : fn = Tryd.f9 := (Option.some.inj (Tryd.func9.symm.trans hfn)).symm
  refine ⟨by kernel_rfl, fun j t ht => ?_⟩
  rw [Tryd.params9] at ht
  have hall : ∀ x ∈ [36, 9], Tryd.prog.wantsStandIn x = false := by
    intro x hx; simp only [List.mem_cons, List.mem_nil_iff, or_false] at hx; rcases hx with rfl | rfl <;> kernel_rfl
  exact hall t (by simpa using Array.mem_of_getElem? ht)
theorem card : Rows.AccessApartUptoCardSaid :=
  Claim7.holds_tied_plain_at .later [] _ _ _ _ said (fun _ h => by cases h) (by kernel_rfl) (fun _ h => by cases h) accessApartUpto_row_tie rfl ⟨rfl, rfl⟩ (by kernel_rfl) rfl plain (by kernel_rfl)
end Go.Proofs.YtphddbijdfmpjaaDoor.accessApart
namespace Go.Proofs.YtphddbijdfmpjaaDoor
theorem accessApart_holds : Rows.AccessApartUptoCardSaid := accessApart.card
end Go.Proofs.YtphddbijdfmpjaaDoor
