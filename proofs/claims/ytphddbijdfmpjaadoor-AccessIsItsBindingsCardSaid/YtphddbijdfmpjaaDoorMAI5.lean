/- What the statement AccessIsItsBindingsCardSaid rests on, part 5 of 5: walks and plain laws; what of the printer's words it leans on. -/
import Derived.Test.YtphddbijdfmpjaaDoorRows
import Derived.Test.YtphddbijdfmpjaaDoorCards
import Derived.Test.YtphddbijdfmpjaaDoorTie
import Derived.Test.YtphddbijdfmpjaaDoorMAI3
import Derived.Test.YtphddbijdfmpjaaDoorMAI4
import Derived.LaidSub
import Derived.Lib.LaidTab
import Derived.ChangeSame
import Derived.WalkKit
import Derived.ProofKit
import Derived.OpenShut
import Derived.ShutString
import Derived.ChangeOld
import Derived.Below
import Derived.SizedLaws
import Derived.Deep.DeepHandedRow
import Derived.LaidMore
namespace Go.Proofs.YtphddbijdfmpjaaDoor.Q
open Go.RowKit Go.MapRaw Go.Proofs.YtphddbijdfmpjaaDoorW.PrintWords Go.Proofs.YtphddbijdfmpjaaDoorW.PrintLast Go.Proofs.YtphddbijdfmpjaaDoor.Wr
open Go.ChangeMaps (setBlock)
set_option linter.unusedVariables false
set_option linter.unusedSimpArgs false
theorem and1023_ (n : Int) : bits .and .i64 n 1023 = n % 1024 := by
  have h127 : (BitVec.ofInt 64 1023).toNat = 2 ^ 10 - 1 := by decide
  have key : (BitVec.ofInt 64 n &&& BitVec.ofInt 64 1023).toNat = (n % ((2 ^ 64 : Nat) : Int)).toNat % 2 ^ 10 := by
    rw [BitVec.toNat_and, BitVec.toNat_ofInt, h127, Nat.and_two_pow_sub_one_eq_mod]
  show IntKind.i64.wrap ((BitVec.ofInt 64 n &&& BitVec.ofInt 64 1023).toNat : Nat) = n % 1024
  rw [key, IntKind.wrap_i64]
  omega
theorem int_at {w : World} {A : Option Addr} {l : List Int} (h : (Kd.int .i64).C w A l.length l) {i : Nat} (hi : i < l.length) : ∃ ad, A = some ad ∧ w.cell? (ad.add i) = some (.int .i64 l[i]) := by
  obtain ⟨ad, c, hA, _, hK, hc⟩ := Kd.C_get h l[i] (i : Int) (by omega) (by omega)
  have hg : l.getD (i : Int).toNat l[i] = l[i] := by rw [Int.toNat_natCast]; simp [hi]
  rw [hg] at hK
  have hK' : c = [.int .i64 l[i]] := hK
  subst hK'
  refine ⟨ad, hA, ?_⟩
  have := hc 0 _ rfl
  have hs : (Kd.int .i64).sz = 1 := rfl
  rw [Int.toNat_natCast, hs, Nat.mul_one, Nat.add_zero] at this
  exact this
theorem R_own {w : World} {base n c : Nat} {ok : Nat → Prop} {A : Option Addr} {xs : List Bnd} (h : Kd.R k27 27 w base ok (.slice A n c) xs) (hn : 0 < n) : ∃ g, A = some ⟨g, 0, none⟩ ∧ base ≤ g := by
  have hx := (Kd.R_reads' h).1
  obtain ⟨h0, inner, ho, hin⟩ := h
  rcases ho.2 with ⟨he, h1⟩ | ⟨g', cap', cur, he, hg, _⟩
  · omega
  · injection he with he1
    exact ⟨g', he1, hg⟩
theorem R_lt {w : World} {base g n c : Nat} {ok : Nat → Prop} {xs : List Bnd} (h : Kd.R k27 27 w base ok (.slice (some ⟨g, 0, none⟩) n c) xs) : g < w.heap.size := by
  obtain ⟨h0, inner, ho, hin⟩ := h
  rcases ho.2 with ⟨he, h1⟩ | ⟨g', cap', cur, he, hg, hb, _⟩
  · cases he
  · injection he with he1
    injection he1 with he1
    injection he1 with he1
    rw [he1]
    exact (Array.getElem?_eq_some_iff.1 hb).1
theorem put4_below {B : Nat} {u w : World} {g : Nat} (h : Below B u w) (hg : B ≤ g) (o : Nat) (x : Bnd) : Below B u (put4 w g o x) :=
  (((h.setCell (p := ⟨g, o, none⟩) hg _).setCell (p := ⟨g, o + 1, none⟩) hg _).setCell (p := ⟨g, o + 2, none⟩) hg _).setCell (p := ⟨g, o + 3, none⟩) hg _
theorem same_self {ar : Array Value} {w : World} {L : List Bnd} (h : Calls Tryd.prog 16 ar w fun e w' => e = .returned (.bool (sameB L L)) ∧ Below w.heap.size w w') : Calls Tryd.prog 16 ar w fun e w' => e = .returned (.bool true) ∧ Below w.heap.size w w' := by
  rw [(sameB_iff L L).2 rfl] at h; exact h
theorem park_ {p : Prop} (h : Aside0 p) : p := h.out
def AtB (L : List Bnd) (i a : Nat) : Prop := (i = 0 ∧ a = 0) ∨ ∃ j, ∃ h : j < L.length, i = j + 1 ∧ a ≤ cntB L[j].path (L.take (j + 1))
theorem atB_one {L : List Bnd} {i : Nat} (h : i < L.length) : AtB L (i + 1) 1 := Or.inr ⟨i, h, rfl, by rw [cntB_take_succ _ h, if_pos rfl]; omega⟩
theorem atB_first {L : List Bnd} {i a : Nat} (h : i < L.length) (hi : i = 0) (ha : AtB L i a) : AtB L (i + 1) (a + 1) := by
  rcases ha with ⟨_, h2⟩ | ⟨j, hj, h1, _⟩
  · subst h2; exact atB_one h
  · omega
theorem atB_next {L : List Bnd} {i j a : Nat} (h : i < L.length) (hj : j < L.length) (hij : i = j + 1) (he : L[i].path = L[j].path) (ha : AtB L i a) : AtB L (i + 1) (a + 1) := by
  rcases ha with ⟨h1, _⟩ | ⟨j', hj', h1, h2⟩
  · omega
  · obtain rfl : j' = j := by omega
    refine Or.inr ⟨i, h, rfl, ?_⟩
    rw [cntB_take_succ _ h, if_pos rfl, he, hij]
    omega
theorem atB_le {L : List Bnd} {i a : Nat} (hf : Fit L) (ha : AtB L i a) : a ≤ 16 := by
  rcases ha with ⟨_, h2⟩ | ⟨j, hj, _, h2⟩
  · omega
  · have := cntB_take L[j].path L (j + 1)
    have := hf.few L[j].path
    omega
attribute [local go_sem] and1023_
set_option maxRecDepth 100000 in
set_option maxHeartbeats 16000000 in
theorem bursarlaw21_AccessIsItsBindings.calls (k : Nat) (A : Option Addr) (c : Nat) (l : List OpV) (Ao : Option Addr) (co : Nat) (od : List Int) (r : Bool) (w : World) (hr : k29.C w A l.length l) (hc : l.length ≤ c) (hro : (Kd.int .i64).C w Ao od.length od) (hco : od.length ≤ co) (hp : od.length ≤ 9223372036854775807 ∧ r = true) (hG : Glob w) :
    Calls Tryd.prog 7 #[.slice A l.length c, .slice Ao od.length co] w fun e w' => e = .returned (.bool r) ∧ Below w.heap.size w w' := by
  obtain ⟨hol, hp⟩ := hp
  have hu29 := Tryd.underlying29
  have hu27 := Tryd.underlying27
  have G1 := Lib.hid hG
  have C1 := Lib.hid hr
  have CO := Lib.hid hro
  have LV := Lib.hid (lives_ok _ hG)
  clear hr hG hro
  go_enter Tryd.func7, Tryd.ntmps7
  go_upto_region 5 with (go_at_call 10; refine LV.out.mono ?_; rintro e w2 ⟨t, b, rfl, hT, ht, hb, hb1⟩; have B2 := Aside0.mk hb1; have T2 := Aside0.mk hT; have HTB := Lib.hid (And.intro ht hb); clear hT ht hb hb1)
  clear LV
  rename_i K1 hK1
  have REST1 : ∀ (x6 x21 x22 x23 x24 x25 x26 x27 x28 x29 x30 x31 x32 x33 x34 x35 x36 : Value) (M : Tab) (wr : World), Aside0 (M.length ≤ 60) → Aside0 (∀ q, cnt q M ≤ 16) → Aside0 (TB wr t b M) → Aside0 (Below w.heap.size w wr) → K1 { tmps := #[.slice A l.length c, .slice Ao od.length co, undef, undef, .bool false, .pointer (some ⟨t, 0, none⟩), x6, undef, undef, undef, undef, undef, undef, undef, undef, undef, undef, undef, .pointer (some ⟨t, 0, none⟩), .pointer (some ⟨t, 0, none⟩), .bool false, x21, x22, x23, x24, x25, x26, x27, x28, x29, x30, x31, x32, x33, x34, x35, x36, undef, undef, undef, undef, undef, undef, undef, undef, undef, undef, undef, undef, undef, undef, undef, undef, undef, undef, undef, undef, undef, undef, undef, undef, undef, undef, undef, undef, undef, undef, undef, undef, undef, undef, undef, undef, undef, undef, undef, undef, undef, undef, undef, undef, undef, undef, undef, undef, undef, undef, undef, undef, undef, undef, undef, undef, undef, undef, undef, undef, undef, undef, undef, undef, undef, undef, undef, undef, undef, undef, undef, undef, undef, undef, undef, undef, undef, undef, undef, undef, undef, undef, undef, undef, undef, undef, undef, undef, undef, undef, undef, undef, undef, undef, undef, undef, undef, undef, undef, undef, undef, undef, undef, undef, undef, undef, undef, undef, undef, undef, undef, undef, undef, undef, undef, undef, undef, undef, undef, undef, undef, undef, undef, undef], defers := [] } wr := by
    intro x6 x21 x22 x23 x24 x25 x26 x27 x28 x29 x30 x31 x32 x33 x34 x35 x36 M wr HM HF HT HB
    clear T2 B2
    refine hK1 _ _ ?_
    clear hK1
    have LST := Lib.hid (list_ok wr t b M HT.out (G1.out.below HB.out) (by have := HM.out; omega))
    go_upto_region 9 with (go_at_call 17; refine LST.out.mono ?_; rintro e w3 ⟨v0, L, rfl, hP, hS, hR, hb3⟩; obtain ⟨A0, c0, rfl⟩ := Kd.R_slice hR; have C3 := Aside0.mk (Kd.R_reads' hR).2.2; have HP := Lib.hid hP; have HS := Lib.hid hS; have B3 := Aside0.mk (HB.out.trans (below_lower hb3 HB.out.size)); have T3 := Aside0.mk (HT.out.below hb3); clear hP hS hR hb3)
    clear LST
    have HLL := Lib.hid (show L.length ≤ 60 by have := HP.out.length_eq; rw [List.length_map] at this; have := HM.out; omega)
    have HFIT := Lib.hid ((Fit.table HT.out.nodup HT.out.fits HF.out).perm HP.out.symm)
    clear HT HB
    go_upto_region 9 with fail
    go_wp2_with ((with_reducible refine gate_builtin (b := .append) (xs := #[.const (.slice none 0 0), .tmp 39]) rfl ?_); at_builtin; refine park_ ?_)
    refine Aside0.mk ?_
    refine Kd.R_append_rows k27 (Rr := k27.K w3) (w0 := w3) w3.heap.size rfl (.const (.slice none 0 0)) (.tmp 39) 36 27 (.agg #[.string ⟨#[]⟩, .string ⟨#[]⟩, .string ⟨#[]⟩, .int .i64 0]) 56 rfl Tryd.underlying36 info27 rfl (by decide) (by omega) (.slice none 0 0) ([] : List Bnd) L A0 L.length c0 (fun _ => True) (fun _ => False) rfl rfl ?aO ?aR ?aK (fun _ h => h.elim) ?aF ?aB ?aS ?aL ?_
    (case aR => exact C3.out)
    (case aK => exact (fun x cs h => by rw [k27_cells h]; exact k27_mkM _ _ _ _))
    (case aB => exact Below.refl _ _)
    (case aF => exact (fun _ _ => trivial))
    (case aO => exact (Kd.R_nil _ _ _ _ (fun _ => True)))
    (case aS => exact Nat.le_refl _)
    (case aL => have := HLL.out; simp; omega)
    intro v2 w4 ho hb2 hg2 hat2
    rw [List.nil_append] at ho
    obtain ⟨Am, cm, rfl⟩ := Kd.R_slice ho
    have O4 := Aside0.mk ho
    have B4 := Aside0.mk hb2
    clear ho hb2 hg2 hat2
    go_upto_region 11 with fail
    rename_i K2 hK2
    have REST2 : ∀ (x9 x10 x11 x41 x42 x43 x44 x45 x46 x47 x48 x49 x50 x51 x52 x53 x54 x55 x56 x57 x58 x59 x60 x61 x62 x63 x64 x65 x66 x67 x68 x69 x70 x71 x72 x73 x74 x75 x76 x77 x78 x79 x80 : Value) (m : List Bnd) (wq : World), Aside0 (m.Perm L) → Aside0 (Kd.R k27 27 wq w3.heap.size (fun _ => True) (.slice Am L.length cm) m) → Aside0 (Below w3.heap.size w3 wq) → K2 { tmps := #[.slice A l.length c, .slice Ao od.length co, undef, undef, .bool false, .pointer (some ⟨t, 0, none⟩), x6, .slice A0 L.length c0, .slice Am L.length cm, x9, x10, x11, undef, undef, undef, undef, undef, undef, .pointer (some ⟨t, 0, none⟩), .pointer (some ⟨t, 0, none⟩), .bool false, x21, x22, x23, x24, x25, x26, x27, x28, x29, x30, x31, x32, x33, x34, x35, x36, .pointer (some ⟨t, 0, none⟩), .slice A0 L.length c0, .slice A0 L.length c0, .slice Am L.length cm, x41, x42, x43, x44, x45, x46, x47, x48, x49, x50, x51, x52, x53, x54, x55, x56, x57, x58, x59, x60, x61, x62, x63, x64, x65, x66, x67, x68, x69, x70, x71, x72, x73, x74, x75, x76, x77, x78, x79, x80, undef, undef, undef, undef, undef, undef, undef, undef, undef, undef, undef, undef, undef, undef, undef, undef, undef, undef, undef, undef, undef, undef, undef, undef, undef, undef, undef, undef, undef, undef, undef, undef, undef, undef, undef, undef, undef, undef, undef, undef, undef, undef, undef, undef, undef, undef, undef, undef, undef, undef, undef, undef, undef, undef, undef, undef, undef, undef, undef, undef, undef, undef, undef, undef, undef, undef, undef, undef, undef, undef, undef, undef, undef, undef, undef, undef, undef, undef, undef, undef], defers := [] } wq := by
      intro x9 x10 x11 x41 x42 x43 x44 x45 x46 x47 x48 x49 x50 x51 x52 x53 x54 x55 x56 x57 x58 x59 x60 x61 x62 x63 x64 x65 x66 x67 x68 x69 x70 x71 x72 x73 x74 x75 x76 x77 x78 x79 x80 m wq HMP HMR HMB
      clear O4 B4
      refine hK2 _ _ ?_
      clear hK2
      have hml := HMP.out.length_eq
      have HFM := Lib.hid (HFIT.out.perm HMP.out.symm)
      have ofc := of_ok Am cm m wq (Kd.R_reads' HMR.out).2.2 (G1.out.below (B3.out.trans (below_lower HMB.out B3.out.size))) (by have := HLL.out; omega)
      rw [of_all HFM.out, hml] at ofc
      have OFC := Lib.hid ofc
      have GQ := Lib.hid (G1.out.below (B3.out.trans (below_lower HMB.out B3.out.size)))
      have HML := Lib.hid hml
      clear ofc hml
      go_upto_region 18 with (go_at_call 14; refine OFC.out.mono ?_; rintro e w5 ⟨v5, rfl, hv, hb⟩; obtain ⟨U, tu, bu, hU, rfl, hTU, htu, hbu⟩ := hv.resolve_left (fun h => (by cases h.1)); obtain rfl : m.map tag = U := Option.some.inj hU; have T5 := Aside0.mk hTU; have B5 := Aside0.mk hb; clear hv hb hTU hU htu hbu)
      clear OFC
      have LU := Lib.hid (list_ok w5 tu bu (m.map tag) T5.out (GQ.out.below B5.out) (by rw [List.length_map]; have := HLL.out; have := HML.out; omega))
      have C5 := Aside0.mk (Kd.C_below C3.out (HMB.out.trans (below_lower B5.out HMB.out.size)))
      have SAME := Lib.hid (fun (A6 : Option Addr) (c6 : Nat) (w6 : World) (hC6 : k27.C w6 A6 L.length L) (hC0 : k27.C w6 A0 L.length L) => same_self (same_ok A6 A0 c6 c0 L L w6 hC6 hC0 (by have := HLL.out; omega)))
      go_upto_region 20 with (first
        | (go_at_call 17; refine LU.out.mono ?_; rintro e w6 ⟨v6, L6, rfl, hP6, hS6, hR6, hb6⟩; obtain ⟨A6, c6, rfl⟩ := Kd.R_slice hR6; have hL6 : L = L6 := Eq.symm (rising_eq HFIT.out (hP6.trans (by rw [List.map_map]; exact (show (m.map ((fun p : Key × Bnd => p.2) ∘ tag)).Perm L by simpa [Function.comp_def, tag] using HMP.out))) HS.out hS6); subst hL6; have C6 := Aside0.mk (Kd.R_reads' hR6).2.2; have B6 := Aside0.mk (B5.out.trans (below_lower hb6 B5.out.size)); have C6b := Aside0.mk (Kd.C_below C5.out hb6); clear hP6 hS6 hR6 hb6)
        | (go_at_call 16; refine (SAME.out _ _ _ C6.out C6b.out).mono ?_; rintro e w7 ⟨rfl, hb7⟩; have B7 := Aside0.mk (B6.out.trans (below_lower hb7 B6.out.size)); have C7 := Aside0.mk (Kd.C_below C6b.out hb7); clear hb7))
      clear SAME T5 B5 C5 B6 C6 C6b GQ
      go_upto_region 22 with fail
      go_loopg [14, 15] L.length (fun g v14 v15 wr => ∃ (i a : Nat), v14 = .int .i64 (a : Int) ∧ v15 = .int .i64 (i : Int) ∧ Aside0 (i + g = L.length) ∧ Aside0 (AtB L i a) ∧ Aside0 (Below w7.heap.size w7 wr))
      case atStart => exact ⟨0, 0, rfl, rfl, ⟨by omega⟩, ⟨Or.inl ⟨rfl, rfl⟩⟩, ⟨Below.refl _ _⟩⟩
      case round =>
        obtain ⟨i, a, rfl, rfl, HI, HA, HBq⟩ := hrel
        by_cases hi : i < L.length
        rotate_left
        · have d1 : decide ((i : Int) < (L.length : Int)) = false := decide_eq_false (by omega)
          have d1n : decide (i < L.length) = false := decide_eq_false hi
          clear hi
          have BB := Lib.hid (B3.out.trans (below_lower (HMB.out.trans (below_lower (B7.out.trans (below_lower HBq.out B7.out.size)) HMB.out.size)) B3.out.size))
          by_cases hn : 0 < L.length
          rotate_left
          · have d2 : decide (0 < (L.length : Int)) = false := decide_eq_false (by omega)
            have d2n : decide (0 < L.length) = false := decide_eq_false hn
            clear hn
            go_wp2
            go_ret
            exact ⟨by rw [hp] <;> rfl, BB.out⟩
          have d2 : decide (0 < (L.length : Int)) = true := decide_eq_true (by omega)
          have d2n : decide (0 < L.length) = true := decide_eq_true hn
          have p1 : ((0 : Int) < (L.length : Int)) = True := eq_true (by omega)
          have p2 : (0 < L.length) = True := eq_true hn
          obtain ⟨ad, hA, hx0, hx⟩ := bnd_at (Kd.C_below C7.out HBq.out) 0 hn
          cases hA
          have HIN := Lib.hid (show L[0] ∈ m from HMP.out.symm.mem_iff.1 (List.getElem_mem hn))
          have R7 := Aside0.mk (Kd.R_below HMR.out (B7.out.trans (below_lower HBq.out B7.out.size)))
          have BW := Lib.hid (HMB.out.trans (below_lower (B7.out.trans (below_lower HBq.out B7.out.size)) HMB.out.size))
          generalize L[0] = x at hx0 hx HIN
          clear hn
          obtain ⟨xp, xn, xs, xv⟩ := x
          have hx1 := hx 1 (.string xn) (by decide) rfl
          have hx2 := hx 2 (.string xs) (by decide) rfl
          have hx3 := hx 3 (.int .i64 xv) (by decide) rfl
          rw [show ad.add (0 * 4) = ad by cases ad; simp [Addr.add]] at hx0 hx1 hx2 hx3
          clear hx
          go_wp2_with ((with_reducible refine gate_builtin (b := .append) (xs := #[.tmp 146, .tmp 150]) rfl ?_); at_builtin; refine park_ ?_)
          refine Aside0.mk ?_
          refine Kd.R_append k27 (w0 := w3) w3.heap.size rfl (.tmp 146) (.tmp 150) 36 27 (.agg #[.string ⟨#[]⟩, .string ⟨#[]⟩, .string ⟨#[]⟩, .int .i64 0]) 56 rfl Tryd.underlying36 info27 rfl (by decide) (by omega) (.slice Am L.length cm) m ⟨xp, xn, xs, xv⟩ [.string xp, .string xn, .string xs, .int .i64 xv] (fun _ => True) (fun _ => False) rfl rfl ?aP (fun _ hk => hk.elim) ?aF ?aO ?aB ?aS ?aL ?_
          (case aP => exact k27_mkM _ _ _ ⟨xp, xn, xs, xv⟩)
          (case aB => exact BW.out)
          (case aF => exact (fun _ _ => trivial))
          (case aO => exact R7.out)
          (case aS => exact BW.out.size)
          (case aL => have := HML.out; have := HLL.out; omega)
          intro v2 w8 ho hb2 hg2 hat2
          obtain ⟨An, cn, rfl⟩ := Kd.R_slice ho
          have ofc := of_ok An cn (m ++ [⟨xp, xn, xs, xv⟩]) w8 (Kd.R_reads' ho).2.2 (G1.out.below (B3.out.trans (below_lower hb2 B3.out.size))) (by have := HML.out; have := HLL.out; simp; omega)
          rw [show ofS [] (m ++ [⟨xp, xn, xs, xv⟩]) = (none, 190) from of_again m [] ⟨xp, xn, xs, xv⟩ HFM.out HIN.out] at ofc
          have OFC := Lib.hid ofc
          have B8 := Lib.hid (B3.out.trans (below_lower hb2 B3.out.size))
          clear ho hb2 hg2 hat2 ofc hx0 hx1 hx2 hx3 BB BW R7 HIN
          obtain ⟨q, hq⟩ : ∃ q, q = (m ++ [(⟨xp, xn, xs, xv⟩ : Bnd)]).length := ⟨_, rfl⟩
          rw [← hq] at OFC ⊢
          clear hq
          go_wp2_with (go_at_call 14; refine OFC.out.mono ?_; rintro e w9 ⟨v9, rfl, hv, hb⟩; obtain ⟨_, rfl⟩ := hv.resolve_right (fun ⟨_, _, _, h, _⟩ => by cases h); have B9 := Lib.hid (B8.out.trans (below_lower hb B8.out.size)); clear hv hb)
          go_ret
          exact ⟨by rw [hp] <;> rfl, B9.out⟩
        obtain ⟨g0, rfl⟩ : ∃ g0, gk = g0 + 1 := ⟨gk - 1, by have := HI.out; omega⟩
        have d1 : decide ((i : Int) < (L.length : Int)) = true := decide_eq_true (by omega)
        have d1n : decide (i < L.length) = true := decide_eq_true hi
        have HA16 := Lib.hid (show a < 1000 by have := atB_le HFIT.out HA.out; omega)
        obtain ⟨a1, ha1⟩ : ∃ a1, a1 = a + 1 := ⟨_, rfl⟩
        have wa1 : wrap64 ((a : Int) + 1) = (a1 : Int) := by rw [ha1]; exact w64 a (by have := HA16.out; omega)
        have HI1 := Lib.hid (show wrap64 ((i : Int) + 1) = ((i + 1 : Nat) : Int) from w64 i (by have := HLL.out; omega))
        by_cases hi0 : i = 0
        · have z1 : decide (0 < (i : Int)) = false := decide_eq_false (by omega)
          have z1n : decide (0 < i) = false := decide_eq_false (by omega)
          have HN := Lib.hid (show AtB L (i + 1) a1 by rw [ha1]; exact atB_first hi hi0 HA.out)
          have z2 : decide (16 < (a1 : Int)) = false := decide_eq_false (by have := atB_le HFIT.out HN.out; omega)
          have z2n : decide (16 < a1) = false := decide_eq_false (by have := atB_le HFIT.out HN.out; omega)
          clear ha1 hi0 hi
          go_upto_region 25 with fail
          refine start_ (n := 16) (S := fun w' => True) (ds := []) #[false, false, false, false, false, false, false, false, false, false, false, false, false, false, false, false] (by kernel_rfl) rfl rfl trivial (fun hHeld => ?_)
          have HBr := Aside0.mk (below_drew1 HBq.out)
          clear HBq
          have HBq := HBr
          clear HBr
          generalize World.drew _ = wd at HBq hHeld ⊢
          refine pure_ (i := 0) (N := some 107) (v := ?_) (a' := ?_) #[true, false, false, false, false, false, false, false, false, false, false, false, false, false, false, false] rfl rfl (by kernel_rfl) (fun _ _ _ h => h) (Or.inl ⟨by rfl, ?_⟩) ?_ ?_
          rotate_left
          · intro w'
            go_simp
            with_reducible rfl
          rotate_left
          · simp only [Act.put, List.setIfInBounds_toArray, List.set_cons_zero, List.set_cons_succ, i64_w, i32_w]
            rfl
          refine pure_ (i := 1) (N := some 108) (v := ?_) (a' := ?_) #[true, true, false, false, false, false, false, false, false, false, false, false, false, false, false, false] rfl rfl (by kernel_rfl) (fun _ _ _ h => h) (Or.inl ⟨by rfl, ?_⟩) ?_ ?_
          rotate_left
          · intro w'
            go_simp
            with_reducible rfl
          rotate_left
          · simp only [Act.put, List.setIfInBounds_toArray, List.set_cons_zero, List.set_cons_succ, i64_w, i32_w]
            rfl
          refine pure_ (i := 2) (N := some 109) (v := ?_) (a' := ?_) #[true, true, true, false, false, false, false, false, false, false, false, false, false, false, false, false] rfl rfl (by kernel_rfl) (fun _ _ _ h => h) (Or.inl ⟨by rfl, ?_⟩) ?_ ?_
          rotate_left
          · intro w'
            go_simp
            with_reducible rfl
          rotate_left
          · simp only [Act.put, List.setIfInBounds_toArray, List.set_cons_zero, List.set_cons_succ, i64_w, i32_w]
            rfl
          refine pure_ (i := 3) (N := some 110) (v := undef) (a' := ?_) #[true, true, true, true, false, false, false, false, false, false, false, false, false, false, false, false] rfl rfl (by kernel_rfl) (fun _ _ _ h => h) (Or.inr ⟨by rfl, rfl⟩) ?_ ?_
          rotate_left
          · simp only [Act.put, List.setIfInBounds_toArray, List.set_cons_zero, List.set_cons_succ, i64_w, i32_w]
            rfl
          refine pure_ (i := 4) (N := some 111) (v := undef) (a' := ?_) #[true, true, true, true, true, false, false, false, false, false, false, false, false, false, false, false] rfl rfl (by kernel_rfl) (fun _ _ _ h => h) (Or.inr ⟨by rfl, rfl⟩) ?_ ?_
          rotate_left
          · simp only [Act.put, List.setIfInBounds_toArray, List.set_cons_zero, List.set_cons_succ, i64_w, i32_w]
            rfl
          refine pure_ (i := 5) (N := some 112) (v := undef) (a' := ?_) #[true, true, true, true, true, true, false, false, false, false, false, false, false, false, false, false] rfl rfl (by kernel_rfl) (fun _ _ _ h => h) (Or.inr ⟨by rfl, rfl⟩) ?_ ?_
          rotate_left
          · simp only [Act.put, List.setIfInBounds_toArray, List.set_cons_zero, List.set_cons_succ, i64_w, i32_w]
            rfl
          refine pure_ (i := 6) (N := some 113) (v := undef) (a' := ?_) #[true, true, true, true, true, true, true, false, false, false, false, false, false, false, false, false] rfl rfl (by kernel_rfl) (fun _ _ _ h => h) (Or.inr ⟨by rfl, rfl⟩) ?_ ?_
          rotate_left
          · simp only [Act.put, List.setIfInBounds_toArray, List.set_cons_zero, List.set_cons_succ, i64_w, i32_w]
            rfl
          refine pure_ (i := 7) (N := some 114) (v := undef) (a' := ?_) #[true, true, true, true, true, true, true, true, false, false, false, false, false, false, false, false] rfl rfl (by kernel_rfl) (fun _ _ _ h => h) (Or.inr ⟨by rfl, rfl⟩) ?_ ?_
          rotate_left
          · simp only [Act.put, List.setIfInBounds_toArray, List.set_cons_zero, List.set_cons_succ, i64_w, i32_w]
            rfl
          refine pure_ (i := 8) (N := some 115) (v := undef) (a' := ?_) #[true, true, true, true, true, true, true, true, true, false, false, false, false, false, false, false] rfl rfl (by kernel_rfl) (fun _ _ _ h => h) (Or.inr ⟨by rfl, rfl⟩) ?_ ?_
          rotate_left
          · simp only [Act.put, List.setIfInBounds_toArray, List.set_cons_zero, List.set_cons_succ, i64_w, i32_w]
            rfl
          refine pure_ (i := 9) (N := some 116) (v := undef) (a' := ?_) #[true, true, true, true, true, true, true, true, true, true, false, false, false, false, false, false] rfl rfl (by kernel_rfl) (fun _ _ _ h => h) (Or.inr ⟨by rfl, rfl⟩) ?_ ?_
          rotate_left
          · simp only [Act.put, List.setIfInBounds_toArray, List.set_cons_zero, List.set_cons_succ, i64_w, i32_w]
            rfl
          refine pure_ (i := 10) (N := some 117) (v := undef) (a' := ?_) #[true, true, true, true, true, true, true, true, true, true, true, false, false, false, false, false] rfl rfl (by kernel_rfl) (fun _ _ _ h => h) (Or.inr ⟨by rfl, rfl⟩) ?_ ?_
          rotate_left
          · simp only [Act.put, List.setIfInBounds_toArray, List.set_cons_zero, List.set_cons_succ, i64_w, i32_w]
            rfl
          refine pure_ (i := 11) (N := some 118) (v := undef) (a' := ?_) #[true, true, true, true, true, true, true, true, true, true, true, true, false, false, false, false] rfl rfl (by kernel_rfl) (fun _ _ _ h => h) (Or.inr ⟨by rfl, rfl⟩) ?_ ?_
          rotate_left
          · simp only [Act.put, List.setIfInBounds_toArray, List.set_cons_zero, List.set_cons_succ, i64_w, i32_w]
            rfl
          refine pure_ (i := 12) (N := some 119) (v := undef) (a' := ?_) #[true, true, true, true, true, true, true, true, true, true, true, true, true, false, false, false] rfl rfl (by kernel_rfl) (fun _ _ _ h => h) (Or.inr ⟨by rfl, rfl⟩) ?_ ?_
          rotate_left
          · simp only [Act.put, List.setIfInBounds_toArray, List.set_cons_zero, List.set_cons_succ, i64_w, i32_w]
            rfl
          refine pure_ (i := 13) (N := some 120) (v := undef) (a' := ?_) #[true, true, true, true, true, true, true, true, true, true, true, true, true, true, false, false] rfl rfl (by kernel_rfl) (fun _ _ _ h => h) (Or.inr ⟨by rfl, rfl⟩) ?_ ?_
          rotate_left
          · simp only [Act.put, List.setIfInBounds_toArray, List.set_cons_zero, List.set_cons_succ, i64_w, i32_w]
            rfl
          refine pure_ (i := 14) (N := some 121) (v := undef) (a' := ?_) #[true, true, true, true, true, true, true, true, true, true, true, true, true, true, true, false] rfl rfl (by kernel_rfl) (fun _ _ _ h => h) (Or.inr ⟨by rfl, rfl⟩) ?_ ?_
          rotate_left
          · simp only [Act.put, List.setIfInBounds_toArray, List.set_cons_zero, List.set_cons_succ, i64_w, i32_w]
            rfl
          refine pure_ (i := 15) (N := some 122) (v := ?_) (a' := ?_) #[true, true, true, true, true, true, true, true, true, true, true, true, true, true, true, true] rfl rfl (by kernel_rfl) (fun _ _ _ h => h) (Or.inl ⟨by rfl, ?_⟩) ?_ ?_
          rotate_left
          · intro w'
            go_simp
            with_reducible rfl
          rotate_left
          · simp only [Act.put, List.setIfInBounds_toArray, List.set_cons_zero, List.set_cons_succ, i64_w, i32_w]
            rfl
          refine done_ (by kernel_rfl) ?_
          clear hHeld
          go_upto_region 27 with fail
          refine start_ (n := 19) (S := fun w' => True) (ds := []) #[false, false, false, false, false, false, false, false, false, false, false, false, false, false, false, false, false, false, false] (by kernel_rfl) rfl rfl trivial (fun hHeld => ?_)
          have HBr := Aside0.mk (below_drew1 HBq.out)
          clear HBq
          have HBq := HBr
          clear HBr
          generalize World.drew _ = wd at HBq hHeld ⊢
          refine pure_ (i := 0) (N := some 123) (v := ?_) (a' := ?_) #[true, false, false, false, false, false, false, false, false, false, false, false, false, false, false, false, false, false, false] rfl rfl (by kernel_rfl) (fun _ _ _ h => h) (Or.inl ⟨by rfl, ?_⟩) ?_ ?_
          rotate_left
          · intro w'
            go_simp
            with_reducible rfl
          rotate_left
          · simp only [Act.put, List.setIfInBounds_toArray, List.set_cons_zero, List.set_cons_succ, i64_w, i32_w]
            rfl
          refine pure_ (i := 1) (N := some 124) (v := ?_) (a' := ?_) #[true, true, false, false, false, false, false, false, false, false, false, false, false, false, false, false, false, false, false] rfl rfl (by kernel_rfl) (fun _ _ _ h => h) (Or.inl ⟨by rfl, ?_⟩) ?_ ?_
          rotate_left
          · intro w'
            go_simp
            with_reducible rfl
          rotate_left
          · simp only [Act.put, List.setIfInBounds_toArray, List.set_cons_zero, List.set_cons_succ, i64_w, i32_w]
            rfl
          refine pure_ (i := 2) (N := some 125) (v := ?_) (a' := ?_) #[true, true, true, false, false, false, false, false, false, false, false, false, false, false, false, false, false, false, false] rfl rfl (by kernel_rfl) (fun _ _ _ h => h) (Or.inl ⟨by rfl, ?_⟩) ?_ ?_
          rotate_left
          · intro w'
            go_simp
            with_reducible rfl
          rotate_left
          · simp only [Act.put, List.setIfInBounds_toArray, List.set_cons_zero, List.set_cons_succ, i64_w, i32_w]
            rfl
          refine pure_ (i := 3) (N := some 126) (v := ?_) (a' := ?_) #[true, true, true, true, false, false, false, false, false, false, false, false, false, false, false, false, false, false, false] rfl rfl (by kernel_rfl) (fun _ _ _ h => h) (Or.inl ⟨by rfl, ?_⟩) ?_ ?_
          rotate_left
          · intro w'
            go_simp
            with_reducible rfl
          rotate_left
          · simp only [Act.put, List.setIfInBounds_toArray, List.set_cons_zero, List.set_cons_succ, i64_w, i32_w]
            rfl
          refine pure_ (i := 4) (N := some 127) (v := ?_) (a' := ?_) #[true, true, true, true, true, false, false, false, false, false, false, false, false, false, false, false, false, false, false] rfl rfl (by kernel_rfl) (fun _ _ _ h => h) (Or.inl ⟨by rfl, ?_⟩) ?_ ?_
          rotate_left
          · intro w'
            go_simp
            with_reducible rfl
          rotate_left
          · simp only [Act.put, List.setIfInBounds_toArray, List.set_cons_zero, List.set_cons_succ, i64_w, i32_w]
            rfl
          refine pure_ (i := 5) (N := some 128) (v := ?_) (a' := ?_) #[true, true, true, true, true, true, false, false, false, false, false, false, false, false, false, false, false, false, false] rfl rfl (by kernel_rfl) (fun _ _ _ h => h) (Or.inl ⟨by rfl, ?_⟩) ?_ ?_
          rotate_left
          · intro w'
            go_simp
            with_reducible rfl
          rotate_left
          · simp only [Act.put, List.setIfInBounds_toArray, List.set_cons_zero, List.set_cons_succ, i64_w, i32_w]
            rfl
          refine pure_ (i := 6) (N := some 129) (v := undef) (a' := ?_) #[true, true, true, true, true, true, true, false, false, false, false, false, false, false, false, false, false, false, false] rfl rfl (by kernel_rfl) (fun _ _ _ h => h) (Or.inr ⟨by rfl, rfl⟩) ?_ ?_
          rotate_left
          · simp only [Act.put, List.setIfInBounds_toArray, List.set_cons_zero, List.set_cons_succ, i64_w, i32_w]
            rfl
          refine pure_ (i := 7) (N := some 130) (v := undef) (a' := ?_) #[true, true, true, true, true, true, true, true, false, false, false, false, false, false, false, false, false, false, false] rfl rfl (by kernel_rfl) (fun _ _ _ h => h) (Or.inr ⟨by rfl, rfl⟩) ?_ ?_
          rotate_left
          · simp only [Act.put, List.setIfInBounds_toArray, List.set_cons_zero, List.set_cons_succ, i64_w, i32_w]
            rfl
          refine pure_ (i := 8) (N := some 131) (v := undef) (a' := ?_) #[true, true, true, true, true, true, true, true, true, false, false, false, false, false, false, false, false, false, false] rfl rfl (by kernel_rfl) (fun _ _ _ h => h) (Or.inr ⟨by rfl, rfl⟩) ?_ ?_
          rotate_left
          · simp only [Act.put, List.setIfInBounds_toArray, List.set_cons_zero, List.set_cons_succ, i64_w, i32_w]
            rfl
          refine pure_ (i := 9) (N := some 132) (v := undef) (a' := ?_) #[true, true, true, true, true, true, true, true, true, true, false, false, false, false, false, false, false, false, false] rfl rfl (by kernel_rfl) (fun _ _ _ h => h) (Or.inr ⟨by rfl, rfl⟩) ?_ ?_
          rotate_left
          · simp only [Act.put, List.setIfInBounds_toArray, List.set_cons_zero, List.set_cons_succ, i64_w, i32_w]
            rfl
          refine pure_ (i := 10) (N := some 133) (v := undef) (a' := ?_) #[true, true, true, true, true, true, true, true, true, true, true, false, false, false, false, false, false, false, false] rfl rfl (by kernel_rfl) (fun _ _ _ h => h) (Or.inr ⟨by rfl, rfl⟩) ?_ ?_
          rotate_left
          · simp only [Act.put, List.setIfInBounds_toArray, List.set_cons_zero, List.set_cons_succ, i64_w, i32_w]
            rfl
          refine pure_ (i := 11) (N := some 134) (v := undef) (a' := ?_) #[true, true, true, true, true, true, true, true, true, true, true, true, false, false, false, false, false, false, false] rfl rfl (by kernel_rfl) (fun _ _ _ h => h) (Or.inr ⟨by rfl, rfl⟩) ?_ ?_
          rotate_left
          · simp only [Act.put, List.setIfInBounds_toArray, List.set_cons_zero, List.set_cons_succ, i64_w, i32_w]
            rfl
          refine pure_ (i := 12) (N := some 135) (v := undef) (a' := ?_) #[true, true, true, true, true, true, true, true, true, true, true, true, true, false, false, false, false, false, false] rfl rfl (by kernel_rfl) (fun _ _ _ h => h) (Or.inr ⟨by rfl, rfl⟩) ?_ ?_
          rotate_left
          · simp only [Act.put, List.setIfInBounds_toArray, List.set_cons_zero, List.set_cons_succ, i64_w, i32_w]
            rfl
          refine pure_ (i := 13) (N := some 136) (v := undef) (a' := ?_) #[true, true, true, true, true, true, true, true, true, true, true, true, true, true, false, false, false, false, false] rfl rfl (by kernel_rfl) (fun _ _ _ h => h) (Or.inr ⟨by rfl, rfl⟩) ?_ ?_
          rotate_left
          · simp only [Act.put, List.setIfInBounds_toArray, List.set_cons_zero, List.set_cons_succ, i64_w, i32_w]
            rfl
          refine pure_ (i := 14) (N := some 137) (v := undef) (a' := ?_) #[true, true, true, true, true, true, true, true, true, true, true, true, true, true, true, false, false, false, false] rfl rfl (by kernel_rfl) (fun _ _ _ h => h) (Or.inr ⟨by rfl, rfl⟩) ?_ ?_
          rotate_left
          · simp only [Act.put, List.setIfInBounds_toArray, List.set_cons_zero, List.set_cons_succ, i64_w, i32_w]
            rfl
          refine pure_ (i := 15) (N := some 138) (v := undef) (a' := ?_) #[true, true, true, true, true, true, true, true, true, true, true, true, true, true, true, true, false, false, false] rfl rfl (by kernel_rfl) (fun _ _ _ h => h) (Or.inr ⟨by rfl, rfl⟩) ?_ ?_
          rotate_left
          · simp only [Act.put, List.setIfInBounds_toArray, List.set_cons_zero, List.set_cons_succ, i64_w, i32_w]
            rfl
          refine pure_ (i := 16) (N := some 139) (v := undef) (a' := ?_) #[true, true, true, true, true, true, true, true, true, true, true, true, true, true, true, true, true, false, false] rfl rfl (by kernel_rfl) (fun _ _ _ h => h) (Or.inr ⟨by rfl, rfl⟩) ?_ ?_
          rotate_left
          · simp only [Act.put, List.setIfInBounds_toArray, List.set_cons_zero, List.set_cons_succ, i64_w, i32_w]
            rfl
          refine pure_ (i := 17) (N := some 140) (v := ?_) (a' := ?_) #[true, true, true, true, true, true, true, true, true, true, true, true, true, true, true, true, true, true, false] rfl rfl (by kernel_rfl) (fun _ _ _ h => h) (Or.inl ⟨by rfl, ?_⟩) ?_ ?_
          rotate_left
          · intro w'
            go_simp
            with_reducible rfl
          rotate_left
          · simp only [Act.put, List.setIfInBounds_toArray, List.set_cons_zero, List.set_cons_succ, i64_w, i32_w]
            rfl
          refine pure_ (i := 18) (N := some 141) (v := ?_) (a' := ?_) #[true, true, true, true, true, true, true, true, true, true, true, true, true, true, true, true, true, true, true] rfl rfl (by kernel_rfl) (fun _ _ _ h => h) (Or.inl ⟨by rfl, ?_⟩) ?_ ?_
          rotate_left
          · intro w'
            go_simp
            with_reducible rfl
          rotate_left
          · simp only [Act.put, List.setIfInBounds_toArray, List.set_cons_zero, List.set_cons_succ, i64_w, i32_w]
            rfl
          refine done_ (by kernel_rfl) ?_
          clear hHeld
          go_wp2
          go_roundg g0
          case measure => omega
          case rel => exact ⟨i + 1, a1, (by first | rfl | exact congrArg (Value.int .i64) wa1), congrArg (Value.int .i64) HI1.out, ⟨by have := HI.out; omega⟩, ⟨HN.out⟩, HBq⟩
        obtain ⟨j, hj⟩ : ∃ j, i = j + 1 := ⟨i - 1, by omega⟩
        have z1 : decide (0 < (i : Int)) = true := decide_eq_true (by omega)
        have z1n : decide (0 < i) = true := decide_eq_true (by omega)
        have wj : wrap64 ((i : Int) - 1) = (j : Int) := by unfold wrap64; have := HLL.out; omega
        have p1 : (0 ≤ (i : Int)) = True := eq_true (by omega)
        have p2 : ((i : Int) < (L.length : Int)) = True := eq_true (by omega)
        have p3 : (0 ≤ (j : Int)) = True := eq_true (by omega)
        have p4 : ((j : Int) < (L.length : Int)) = True := eq_true (by omega)
        have hjL : j < L.length := by omega
        obtain ⟨ad, hA, hxa, hxb⟩ := bnd_at C7.out i hi
        clear hxa hxb
        cases hA
        have CELL := Lib.hid (show ∀ w', Below w7.heap.size w7 w' → w'.cell? (ad.add (i * 4)) = some (.string L[i].path) ∧ w'.cell? ⟨(ad.add (i * 4)).block, (ad.add (i * 4)).off + 1, none⟩ = some (.string L[i].name) ∧ w'.cell? ⟨(ad.add (i * 4)).block, (ad.add (i * 4)).off + 2, none⟩ = some (.string L[i].subject) ∧ w'.cell? ⟨(ad.add (i * 4)).block, (ad.add (i * 4)).off + 3, none⟩ = some (.int .i64 L[i].verb) ∧ w'.cell? (ad.add (j * 4)) = some (.string L[j].path) ∧ w'.cell? ⟨(ad.add (j * 4)).block, (ad.add (j * 4)).off + 1, none⟩ = some (.string L[j].name) ∧ w'.cell? ⟨(ad.add (j * 4)).block, (ad.add (j * 4)).off + 2, none⟩ = some (.string L[j].subject) ∧ w'.cell? ⟨(ad.add (j * 4)).block, (ad.add (j * 4)).off + 3, none⟩ = some (.int .i64 L[j].verb) from fun w' hb => by
          obtain ⟨ae, hA, h0, hx⟩ := bnd_at (Kd.C_below C7.out hb) i hi
          cases hA
          obtain ⟨af, hA, h1, hy⟩ := bnd_at (Kd.C_below C7.out hb) j hjL
          cases hA
          exact ⟨h0, hx 1 _ (by decide) rfl, hx 2 _ (by decide) rfl, hx 3 _ (by decide) rfl, h1, hy 1 _ (by decide) rfl, hy 2 _ (by decide) rfl, hy 3 _ (by decide) rfl⟩)
        have RC := Lib.hid (show ∀ w', Below w7.heap.size w7 w' → Calls Tryd.prog 24 #[eV L[j], eV L[i]] w' fun e w2 => e = .returned (.bool true) ∧ Below w'.heap.size w' w2 from fun w' hb => (rises_ok L[j] L[i] w' (G1.out.below (B3.out.trans (below_lower (HMB.out.trans (below_lower (B7.out.trans (below_lower hb B7.out.size)) HMB.out.size)) B3.out.size)))).mono (by
          rintro e w2 ⟨h1, h2⟩
          refine ⟨?_, h2⟩
          rw [h1, show risesB L[j] L[i] = true from (by
            have key : ∀ (q : Nat) (h : q < L.length), q = j + 1 → risesB L[j] L[q] = true := by
              rintro q h rfl
              exact rises_next HFIT.out HS.out h
            exact key i hi hj)]))
        unfold eV at RC
        have HNS := Lib.hid (show L[i].path = L[j].path → AtB L (i + 1) a1 from fun he => by rw [ha1]; exact atB_next hi hjL hj he HA.out)
        have HND := Lib.hid (show AtB L (i + 1) 1 from atB_one hi)
        generalize L[i] = x at CELL RC HNS
        generalize L[j] = y at CELL RC HNS
        obtain ⟨xp, xn, xs, xv⟩ := x
        obtain ⟨yp, yn, ys, yv⟩ := y
        clear ha1 hi0 hi hj hjL
        by_cases he : xp = yp
        · have e1 : (xp.toList != yp.toList) = false := by rw [he]; simp
          have e1b : (xp.toList == yp.toList) = true := by rw [he]; simp
          have HN := Lib.hid (HNS.out he)
          have z2 : decide (16 < (a1 : Int)) = false := decide_eq_false (by have := atB_le HFIT.out HN.out; omega)
          have z2n : decide (16 < a1) = false := decide_eq_false (by have := atB_le HFIT.out HN.out; omega)
          clear he
          go_upto_region 25 with fail
          refine start_ (n := 16) (S := fun w' => w'.cell? (ad.add (i * 4)) = some (.string xp) ∧ w'.cell? (ad.add (j * 4)) = some (.string yp)) (ds := []) #[false, false, false, false, false, false, false, false, false, false, false, false, false, false, false, false] (by kernel_rfl) rfl rfl ⟨(CELL.out _ (below_drew1 HBq.out)).1, (CELL.out _ (below_drew1 HBq.out)).2.2.2.2.1⟩ (fun hHeld => ?_)
          have HBr := Aside0.mk (below_drew1 HBq.out)
          clear HBq
          have HBq := HBr
          clear HBr
          generalize World.drew _ = wd at HBq hHeld ⊢
          refine pure_ (i := 0) (N := some 107) (v := ?_) (a' := ?_) #[true, false, false, false, false, false, false, false, false, false, false, false, false, false, false, false] rfl rfl (by kernel_rfl) (fun _ _ _ h => h) (Or.inl ⟨by rfl, ?_⟩) ?_ ?_
          rotate_left
          · intro w'
            go_simp
            with_reducible rfl
          rotate_left
          · simp only [Act.put, List.setIfInBounds_toArray, List.set_cons_zero, List.set_cons_succ, i64_w, i32_w]
            rfl
          refine pure_ (i := 1) (N := some 108) (v := ?_) (a' := ?_) #[true, true, false, false, false, false, false, false, false, false, false, false, false, false, false, false] rfl rfl (by kernel_rfl) (fun _ _ _ h => h) (Or.inl ⟨by rfl, ?_⟩) ?_ ?_
          rotate_left
          · intro w'
            go_simp
            with_reducible rfl
          rotate_left
          · simp only [Act.put, List.setIfInBounds_toArray, List.set_cons_zero, List.set_cons_succ, i64_w, i32_w]
            rfl
          refine pure_ (i := 2) (N := some 109) (v := ?_) (a' := ?_) #[true, true, true, false, false, false, false, false, false, false, false, false, false, false, false, false] rfl rfl (by kernel_rfl) (fun _ _ _ h => h) (Or.inl ⟨by rfl, ?_⟩) ?_ ?_
          rotate_left
          · intro w'
            go_simp
            with_reducible rfl
          rotate_left
          · simp only [Act.put, List.setIfInBounds_toArray, List.set_cons_zero, List.set_cons_succ, i64_w, i32_w]
            rfl
          refine pure_ (i := 3) (N := some 110) (v := ?_) (a' := ?_) #[true, true, true, true, false, false, false, false, false, false, false, false, false, false, false, false] rfl rfl (by kernel_rfl) (fun _ _ _ h => h) (Or.inl ⟨by rfl, ?_⟩) ?_ ?_
          rotate_left
          · intro w'
            go_simp
            with_reducible rfl
          rotate_left
          · simp only [Act.put, List.setIfInBounds_toArray, List.set_cons_zero, List.set_cons_succ, i64_w, i32_w]
            rfl
          refine pure_ (i := 4) (N := some 111) (v := ?_) (a' := ?_) #[true, true, true, true, true, false, false, false, false, false, false, false, false, false, false, false] rfl rfl (by kernel_rfl) (fun _ _ _ h => h) (Or.inl ⟨by rfl, ?_⟩) ?_ ?_
          rotate_left
          · intro w'
            go_simp
            with_reducible rfl
          rotate_left
          · simp only [Act.put, List.setIfInBounds_toArray, List.set_cons_zero, List.set_cons_succ, i64_w, i32_w]
            rfl
          refine pure_ (i := 5) (N := some 112) (v := ?_) (a' := ?_) #[true, true, true, true, true, true, false, false, false, false, false, false, false, false, false, false] rfl rfl (by kernel_rfl) (fun _ _ _ h => h) (Or.inl ⟨by rfl, ?_⟩) ?_ ?_
          rotate_left
          · intro w'
            go_simp
            with_reducible rfl
          rotate_left
          · simp only [Act.put, List.setIfInBounds_toArray, List.set_cons_zero, List.set_cons_succ, i64_w, i32_w]
            rfl
          refine pure_ (i := 6) (N := some 113) (v := ?_) (a' := ?_) #[true, true, true, true, true, true, true, false, false, false, false, false, false, false, false, false] rfl rfl (by kernel_rfl) (fun _ _ _ h => h) (Or.inl ⟨by rfl, ?_⟩) ?_ ?_
          rotate_left
          · intro w'
            go_simp
            with_reducible rfl
          rotate_left
          · simp only [Act.put, List.setIfInBounds_toArray, List.set_cons_zero, List.set_cons_succ, i64_w, i32_w]
            rfl
          refine take_ (i := 7) (N := some 114) (v := ?_) (a' := ?_) #[true, true, true, true, true, true, true, true, false, false, false, false, false, false, false, false] rfl rfl (by kernel_rfl) (fun _ _ _ h => h) (Or.inl ⟨by rfl, ?_⟩) hHeld ?_ ?_
          rotate_left
          · rintro w' ⟨s0, s1⟩
            go_simp
            with_reducible rfl
          rotate_left
          · simp only [Act.put, List.setIfInBounds_toArray, List.set_cons_zero, List.set_cons_succ, i64_w, i32_w]
            rfl
          refine pure_ (i := 8) (N := some 115) (v := ?_) (a' := ?_) #[true, true, true, true, true, true, true, true, true, false, false, false, false, false, false, false] rfl rfl (by kernel_rfl) (fun _ _ _ h => h) (Or.inl ⟨by rfl, ?_⟩) ?_ ?_
          rotate_left
          · intro w'
            go_simp
            with_reducible rfl
          rotate_left
          · simp only [Act.put, List.setIfInBounds_toArray, List.set_cons_zero, List.set_cons_succ, i64_w, i32_w]
            rfl
          refine pure_ (i := 9) (N := some 116) (v := ?_) (a' := ?_) #[true, true, true, true, true, true, true, true, true, true, false, false, false, false, false, false] rfl rfl (by kernel_rfl) (fun _ _ _ h => h) (Or.inl ⟨by rfl, ?_⟩) ?_ ?_
          rotate_left
          · intro w'
            go_simp
            with_reducible rfl
          rotate_left
          · simp only [Act.put, List.setIfInBounds_toArray, List.set_cons_zero, List.set_cons_succ, i64_w, i32_w]
            rfl
          refine pure_ (i := 10) (N := some 117) (v := ?_) (a' := ?_) #[true, true, true, true, true, true, true, true, true, true, true, false, false, false, false, false] rfl rfl (by kernel_rfl) (fun _ _ _ h => h) (Or.inl ⟨by rfl, ?_⟩) ?_ ?_
          rotate_left
          · intro w'
            go_simp
            with_reducible rfl
          rotate_left
          · simp only [Act.put, List.setIfInBounds_toArray, List.set_cons_zero, List.set_cons_succ, i64_w, i32_w]
            rfl
          refine pure_ (i := 11) (N := some 118) (v := ?_) (a' := ?_) #[true, true, true, true, true, true, true, true, true, true, true, true, false, false, false, false] rfl rfl (by kernel_rfl) (fun _ _ _ h => h) (Or.inl ⟨by rfl, ?_⟩) ?_ ?_
          rotate_left
          · intro w'
            go_simp
            with_reducible rfl
          rotate_left
          · simp only [Act.put, List.setIfInBounds_toArray, List.set_cons_zero, List.set_cons_succ, i64_w, i32_w]
            rfl
          refine pure_ (i := 12) (N := some 119) (v := ?_) (a' := ?_) #[true, true, true, true, true, true, true, true, true, true, true, true, true, false, false, false] rfl rfl (by kernel_rfl) (fun _ _ _ h => h) (Or.inl ⟨by rfl, ?_⟩) ?_ ?_
          rotate_left
          · intro w'
            go_simp
            with_reducible rfl
          rotate_left
          · simp only [Act.put, List.setIfInBounds_toArray, List.set_cons_zero, List.set_cons_succ, i64_w, i32_w]
            rfl
          refine take_ (i := 13) (N := some 120) (v := ?_) (a' := ?_) #[true, true, true, true, true, true, true, true, true, true, true, true, true, true, false, false] rfl rfl (by kernel_rfl) (fun _ _ _ h => h) (Or.inl ⟨by rfl, ?_⟩) hHeld ?_ ?_
          rotate_left
          · rintro w' ⟨s0, s1⟩
            go_simp
            with_reducible rfl
          rotate_left
          · simp only [Act.put, List.setIfInBounds_toArray, List.set_cons_zero, List.set_cons_succ, i64_w, i32_w]
            rfl
          refine pure_ (i := 14) (N := some 121) (v := ?_) (a' := ?_) #[true, true, true, true, true, true, true, true, true, true, true, true, true, true, true, false] rfl rfl (by kernel_rfl) (fun _ _ _ h => h) (Or.inl ⟨by rfl, ?_⟩) ?_ ?_
          rotate_left
          · intro w'
            go_simp
            with_reducible rfl
          rotate_left
          · simp only [Act.put, List.setIfInBounds_toArray, List.set_cons_zero, List.set_cons_succ, i64_w, i32_w]
            rfl
          refine pure_ (i := 15) (N := some 122) (v := ?_) (a' := ?_) #[true, true, true, true, true, true, true, true, true, true, true, true, true, true, true, true] rfl rfl (by kernel_rfl) (fun _ _ _ h => h) (Or.inl ⟨by rfl, ?_⟩) ?_ ?_
          rotate_left
          · intro w'
            go_simp
            with_reducible rfl
          rotate_left
          · simp only [Act.put, List.setIfInBounds_toArray, List.set_cons_zero, List.set_cons_succ, i64_w, i32_w]
            rfl
          refine done_ (by kernel_rfl) ?_
          clear hHeld
          go_upto_region 27 with fail
          refine start_ (n := 19) (S := fun w' => w'.cell? (ad.add (i * 4)) = some (.string xp) ∧ w'.cell? ⟨(ad.add (i * 4)).block, (ad.add (i * 4)).off + 1, none⟩ = some (.string xn) ∧ w'.cell? ⟨(ad.add (i * 4)).block, (ad.add (i * 4)).off + 2, none⟩ = some (.string xs) ∧ w'.cell? ⟨(ad.add (i * 4)).block, (ad.add (i * 4)).off + 3, none⟩ = some (.int .i64 xv) ∧ w'.cell? (ad.add (j * 4)) = some (.string yp) ∧ w'.cell? ⟨(ad.add (j * 4)).block, (ad.add (j * 4)).off + 1, none⟩ = some (.string yn) ∧ w'.cell? ⟨(ad.add (j * 4)).block, (ad.add (j * 4)).off + 2, none⟩ = some (.string ys) ∧ w'.cell? ⟨(ad.add (j * 4)).block, (ad.add (j * 4)).off + 3, none⟩ = some (.int .i64 yv)) (ds := []) #[false, false, false, false, false, false, false, false, false, false, false, false, false, false, false, false, false, false, false] (by kernel_rfl) rfl rfl (CELL.out _ (below_drew1 HBq.out)) (fun hHeld => ?_)
          have HBr := Aside0.mk (below_drew1 HBq.out)
          clear HBq
          have HBq := HBr
          clear HBr
          generalize World.drew _ = wd at HBq hHeld ⊢
          refine pure_ (i := 0) (N := some 123) (v := ?_) (a' := ?_) #[true, false, false, false, false, false, false, false, false, false, false, false, false, false, false, false, false, false, false] rfl rfl (by kernel_rfl) (fun _ _ _ h => h) (Or.inl ⟨by rfl, ?_⟩) ?_ ?_
          rotate_left
          · intro w'
            go_simp
            with_reducible rfl
          rotate_left
          · simp only [Act.put, List.setIfInBounds_toArray, List.set_cons_zero, List.set_cons_succ, i64_w, i32_w]
            rfl
          refine pure_ (i := 1) (N := some 124) (v := ?_) (a' := ?_) #[true, true, false, false, false, false, false, false, false, false, false, false, false, false, false, false, false, false, false] rfl rfl (by kernel_rfl) (fun _ _ _ h => h) (Or.inl ⟨by rfl, ?_⟩) ?_ ?_
          rotate_left
          · intro w'
            go_simp
            with_reducible rfl
          rotate_left
          · simp only [Act.put, List.setIfInBounds_toArray, List.set_cons_zero, List.set_cons_succ, i64_w, i32_w]
            rfl
          refine pure_ (i := 2) (N := some 125) (v := ?_) (a' := ?_) #[true, true, true, false, false, false, false, false, false, false, false, false, false, false, false, false, false, false, false] rfl rfl (by kernel_rfl) (fun _ _ _ h => h) (Or.inl ⟨by rfl, ?_⟩) ?_ ?_
          rotate_left
          · intro w'
            go_simp
            with_reducible rfl
          rotate_left
          · simp only [Act.put, List.setIfInBounds_toArray, List.set_cons_zero, List.set_cons_succ, i64_w, i32_w]
            rfl
          refine pure_ (i := 3) (N := some 126) (v := ?_) (a' := ?_) #[true, true, true, true, false, false, false, false, false, false, false, false, false, false, false, false, false, false, false] rfl rfl (by kernel_rfl) (fun _ _ _ h => h) (Or.inl ⟨by rfl, ?_⟩) ?_ ?_
          rotate_left
          · intro w'
            go_simp
            with_reducible rfl
          rotate_left
          · simp only [Act.put, List.setIfInBounds_toArray, List.set_cons_zero, List.set_cons_succ, i64_w, i32_w]
            rfl
          refine pure_ (i := 4) (N := some 127) (v := ?_) (a' := ?_) #[true, true, true, true, true, false, false, false, false, false, false, false, false, false, false, false, false, false, false] rfl rfl (by kernel_rfl) (fun _ _ _ h => h) (Or.inl ⟨by rfl, ?_⟩) ?_ ?_
          rotate_left
          · intro w'
            go_simp
            with_reducible rfl
          rotate_left
          · simp only [Act.put, List.setIfInBounds_toArray, List.set_cons_zero, List.set_cons_succ, i64_w, i32_w]
            rfl
          refine pure_ (i := 5) (N := some 128) (v := ?_) (a' := ?_) #[true, true, true, true, true, true, false, false, false, false, false, false, false, false, false, false, false, false, false] rfl rfl (by kernel_rfl) (fun _ _ _ h => h) (Or.inl ⟨by rfl, ?_⟩) ?_ ?_
          rotate_left
          · intro w'
            go_simp
            with_reducible rfl
          rotate_left
          · simp only [Act.put, List.setIfInBounds_toArray, List.set_cons_zero, List.set_cons_succ, i64_w, i32_w]
            rfl
          refine pure_ (i := 6) (N := some 129) (v := ?_) (a' := ?_) #[true, true, true, true, true, true, true, false, false, false, false, false, false, false, false, false, false, false, false] rfl rfl (by kernel_rfl) (fun _ _ _ h => h) (Or.inl ⟨by rfl, ?_⟩) ?_ ?_
          rotate_left
          · intro w'
            go_simp
            with_reducible rfl
          rotate_left
          · simp only [Act.put, List.setIfInBounds_toArray, List.set_cons_zero, List.set_cons_succ, i64_w, i32_w]
            rfl
          refine pure_ (i := 7) (N := some 130) (v := ?_) (a' := ?_) #[true, true, true, true, true, true, true, true, false, false, false, false, false, false, false, false, false, false, false] rfl rfl (by kernel_rfl) (fun _ _ _ h => h) (Or.inl ⟨by rfl, ?_⟩) ?_ ?_
          rotate_left
          · intro w'
            go_simp
            with_reducible rfl
          rotate_left
          · simp only [Act.put, List.setIfInBounds_toArray, List.set_cons_zero, List.set_cons_succ, i64_w, i32_w]
            rfl
          refine pure_ (i := 8) (N := some 131) (v := ?_) (a' := ?_) #[true, true, true, true, true, true, true, true, true, false, false, false, false, false, false, false, false, false, false] rfl rfl (by kernel_rfl) (fun _ _ _ h => h) (Or.inl ⟨by rfl, ?_⟩) ?_ ?_
          rotate_left
          · intro w'
            go_simp
            with_reducible rfl
          rotate_left
          · simp only [Act.put, List.setIfInBounds_toArray, List.set_cons_zero, List.set_cons_succ, i64_w, i32_w]
            rfl
          refine pure_ (i := 9) (N := some 132) (v := ?_) (a' := ?_) #[true, true, true, true, true, true, true, true, true, true, false, false, false, false, false, false, false, false, false] rfl rfl (by kernel_rfl) (fun _ _ _ h => h) (Or.inl ⟨by rfl, ?_⟩) ?_ ?_
          rotate_left
          · intro w'
            go_simp
            with_reducible rfl
          rotate_left
          · simp only [Act.put, List.setIfInBounds_toArray, List.set_cons_zero, List.set_cons_succ, i64_w, i32_w]
            rfl
          refine take_ (i := 10) (N := some 133) (v := ?_) (a' := ?_) #[true, true, true, true, true, true, true, true, true, true, true, false, false, false, false, false, false, false, false] rfl rfl (by kernel_rfl) (fun _ _ _ h => h) (Or.inl ⟨by rfl, ?_⟩) hHeld ?_ ?_
          rotate_left
          · rintro w' ⟨s0, s1, s2, s3, s4, s5, s6, s7⟩
            go_simp
            with_reducible rfl
          rotate_left
          · simp only [Act.put, List.setIfInBounds_toArray, List.set_cons_zero, List.set_cons_succ, i64_w, i32_w]
            rfl
          refine pure_ (i := 11) (N := some 134) (v := ?_) (a' := ?_) #[true, true, true, true, true, true, true, true, true, true, true, true, false, false, false, false, false, false, false] rfl rfl (by kernel_rfl) (fun _ _ _ h => h) (Or.inl ⟨by rfl, ?_⟩) ?_ ?_
          rotate_left
          · intro w'
            go_simp
            with_reducible rfl
          rotate_left
          · simp only [Act.put, List.setIfInBounds_toArray, List.set_cons_zero, List.set_cons_succ, i64_w, i32_w]
            rfl
          refine pure_ (i := 12) (N := some 135) (v := ?_) (a' := ?_) #[true, true, true, true, true, true, true, true, true, true, true, true, true, false, false, false, false, false, false] rfl rfl (by kernel_rfl) (fun _ _ _ h => h) (Or.inl ⟨by rfl, ?_⟩) ?_ ?_
          rotate_left
          · intro w'
            go_simp
            with_reducible rfl
          rotate_left
          · simp only [Act.put, List.setIfInBounds_toArray, List.set_cons_zero, List.set_cons_succ, i64_w, i32_w]
            rfl
          refine pure_ (i := 13) (N := some 136) (v := ?_) (a' := ?_) #[true, true, true, true, true, true, true, true, true, true, true, true, true, true, false, false, false, false, false] rfl rfl (by kernel_rfl) (fun _ _ _ h => h) (Or.inl ⟨by rfl, ?_⟩) ?_ ?_
          rotate_left
          · intro w'
            go_simp
            with_reducible rfl
          rotate_left
          · simp only [Act.put, List.setIfInBounds_toArray, List.set_cons_zero, List.set_cons_succ, i64_w, i32_w]
            rfl
          refine take_ (i := 14) (N := some 137) (v := ?_) (a' := ?_) #[true, true, true, true, true, true, true, true, true, true, true, true, true, true, true, false, false, false, false] rfl rfl (by kernel_rfl) (fun _ _ _ h => h) (Or.inl ⟨by rfl, ?_⟩) hHeld ?_ ?_
          rotate_left
          · rintro w' ⟨s0, s1, s2, s3, s4, s5, s6, s7⟩
            go_simp
            with_reducible rfl
          rotate_left
          · simp only [Act.put, List.setIfInBounds_toArray, List.set_cons_zero, List.set_cons_succ, i64_w, i32_w]
            rfl
          refine one_ (i := 15) (N := some 138) #[true, true, true, true, true, true, true, true, true, true, true, true, true, true, true, true, false, false, false] rfl rfl (by kernel_rfl) (by decide) (fun K hK => ?_)
          refine goes_ Tryd.func24 (by kernel_rfl) rfl #[.agg #[.string yp, .string yn, .string ys, .int .i64 yv], .agg #[.string xp, .string xn, .string xs, .int .i64 xv]] (by rfl) rfl rfl (by (try simp only [List.map_toArray, List.map_cons, List.map_nil]); first | done | rfl) ?_
          with_reducible refine (RC.out _ HBq.out).mono ?_
          rintro e wz ⟨rfl, hb⟩
          have HBr := Aside0.mk (HBq.out.trans (below_lower hb HBq.out.size))
          clear HBq hb
          have HBq := HBr
          clear HBr
          refine ⟨_, rfl, ?_⟩
          refine hK.out _ _ (CELL.out _ HBq.out) (fun hHeld => ?_)
          clear hK K
          refine norm_ (a' := ?_) ?_ ?_
          rotate_left
          · show Act.put _ (some 138) _ = _
            simp only [Act.put, List.setIfInBounds_toArray, List.set_cons_zero, List.set_cons_succ, i64_w, i32_w]
            rfl
          refine pure_ (i := 16) (N := some 139) (v := ?_) (a' := ?_) #[true, true, true, true, true, true, true, true, true, true, true, true, true, true, true, true, true, false, false] rfl rfl (by kernel_rfl) (fun _ _ _ h => h) (Or.inl ⟨by rfl, ?_⟩) ?_ ?_
          rotate_left
          · intro w'
            go_simp
            with_reducible rfl
          rotate_left
          · simp only [Act.put, List.setIfInBounds_toArray, List.set_cons_zero, List.set_cons_succ, i64_w, i32_w]
            rfl
          refine pure_ (i := 17) (N := some 140) (v := ?_) (a' := ?_) #[true, true, true, true, true, true, true, true, true, true, true, true, true, true, true, true, true, true, false] rfl rfl (by kernel_rfl) (fun _ _ _ h => h) (Or.inl ⟨by rfl, ?_⟩) ?_ ?_
          rotate_left
          · intro w'
            go_simp
            with_reducible rfl
          rotate_left
          · simp only [Act.put, List.setIfInBounds_toArray, List.set_cons_zero, List.set_cons_succ, i64_w, i32_w]
            rfl
          refine pure_ (i := 18) (N := some 141) (v := ?_) (a' := ?_) #[true, true, true, true, true, true, true, true, true, true, true, true, true, true, true, true, true, true, true] rfl rfl (by kernel_rfl) (fun _ _ _ h => h) (Or.inl ⟨by rfl, ?_⟩) ?_ ?_
          rotate_left
          · intro w'
            go_simp
            with_reducible rfl
          rotate_left
          · simp only [Act.put, List.setIfInBounds_toArray, List.set_cons_zero, List.set_cons_succ, i64_w, i32_w]
            rfl
          refine done_ (by kernel_rfl) ?_
          clear hHeld
          go_wp2
          go_roundg g0
          case measure => omega
          case rel => exact ⟨i + 1, a1, (by first | rfl | exact congrArg (Value.int .i64) wa1), congrArg (Value.int .i64) HI1.out, ⟨by have := HI.out; omega⟩, ⟨HN.out⟩, HBq⟩
        · have e1 : (xp.toList != yp.toList) = true := by rw [bne_iff_ne]; intro h; exact he ((ba_iff _ _).1 h)
          have e1b : (xp.toList == yp.toList) = false := by rw [toList_beq, Bool.eq_false_iff, Ne, ba_beq]; exact he
          clear he
          go_upto_region 25 with fail
          refine start_ (n := 16) (S := fun w' => w'.cell? (ad.add (i * 4)) = some (.string xp) ∧ w'.cell? (ad.add (j * 4)) = some (.string yp)) (ds := []) #[false, false, false, false, false, false, false, false, false, false, false, false, false, false, false, false] (by kernel_rfl) rfl rfl ⟨(CELL.out _ (below_drew1 HBq.out)).1, (CELL.out _ (below_drew1 HBq.out)).2.2.2.2.1⟩ (fun hHeld => ?_)
          have HBr := Aside0.mk (below_drew1 HBq.out)
          clear HBq
          have HBq := HBr
          clear HBr
          generalize World.drew _ = wd at HBq hHeld ⊢
          refine pure_ (i := 0) (N := some 107) (v := ?_) (a' := ?_) #[true, false, false, false, false, false, false, false, false, false, false, false, false, false, false, false] rfl rfl (by kernel_rfl) (fun _ _ _ h => h) (Or.inl ⟨by rfl, ?_⟩) ?_ ?_
          rotate_left
          · intro w'
            go_simp
            with_reducible rfl
          rotate_left
          · simp only [Act.put, List.setIfInBounds_toArray, List.set_cons_zero, List.set_cons_succ, i64_w, i32_w]
            rfl
          refine pure_ (i := 1) (N := some 108) (v := ?_) (a' := ?_) #[true, true, false, false, false, false, false, false, false, false, false, false, false, false, false, false] rfl rfl (by kernel_rfl) (fun _ _ _ h => h) (Or.inl ⟨by rfl, ?_⟩) ?_ ?_
          rotate_left
          · intro w'
            go_simp
            with_reducible rfl
          rotate_left
          · simp only [Act.put, List.setIfInBounds_toArray, List.set_cons_zero, List.set_cons_succ, i64_w, i32_w]
            rfl
          refine pure_ (i := 2) (N := some 109) (v := ?_) (a' := ?_) #[true, true, true, false, false, false, false, false, false, false, false, false, false, false, false, false] rfl rfl (by kernel_rfl) (fun _ _ _ h => h) (Or.inl ⟨by rfl, ?_⟩) ?_ ?_
          rotate_left
          · intro w'
            go_simp
            with_reducible rfl
          rotate_left
          · simp only [Act.put, List.setIfInBounds_toArray, List.set_cons_zero, List.set_cons_succ, i64_w, i32_w]
            rfl
          refine pure_ (i := 3) (N := some 110) (v := ?_) (a' := ?_) #[true, true, true, true, false, false, false, false, false, false, false, false, false, false, false, false] rfl rfl (by kernel_rfl) (fun _ _ _ h => h) (Or.inl ⟨by rfl, ?_⟩) ?_ ?_
          rotate_left
          · intro w'
            go_simp
            with_reducible rfl
          rotate_left
          · simp only [Act.put, List.setIfInBounds_toArray, List.set_cons_zero, List.set_cons_succ, i64_w, i32_w]
            rfl
          refine pure_ (i := 4) (N := some 111) (v := ?_) (a' := ?_) #[true, true, true, true, true, false, false, false, false, false, false, false, false, false, false, false] rfl rfl (by kernel_rfl) (fun _ _ _ h => h) (Or.inl ⟨by rfl, ?_⟩) ?_ ?_
          rotate_left
          · intro w'
            go_simp
            with_reducible rfl
          rotate_left
          · simp only [Act.put, List.setIfInBounds_toArray, List.set_cons_zero, List.set_cons_succ, i64_w, i32_w]
            rfl
          refine pure_ (i := 5) (N := some 112) (v := ?_) (a' := ?_) #[true, true, true, true, true, true, false, false, false, false, false, false, false, false, false, false] rfl rfl (by kernel_rfl) (fun _ _ _ h => h) (Or.inl ⟨by rfl, ?_⟩) ?_ ?_
          rotate_left
          · intro w'
            go_simp
            with_reducible rfl
          rotate_left
          · simp only [Act.put, List.setIfInBounds_toArray, List.set_cons_zero, List.set_cons_succ, i64_w, i32_w]
            rfl
          refine pure_ (i := 6) (N := some 113) (v := ?_) (a' := ?_) #[true, true, true, true, true, true, true, false, false, false, false, false, false, false, false, false] rfl rfl (by kernel_rfl) (fun _ _ _ h => h) (Or.inl ⟨by rfl, ?_⟩) ?_ ?_
          rotate_left
          · intro w'
            go_simp
            with_reducible rfl
          rotate_left
          · simp only [Act.put, List.setIfInBounds_toArray, List.set_cons_zero, List.set_cons_succ, i64_w, i32_w]
            rfl
          refine take_ (i := 7) (N := some 114) (v := ?_) (a' := ?_) #[true, true, true, true, true, true, true, true, false, false, false, false, false, false, false, false] rfl rfl (by kernel_rfl) (fun _ _ _ h => h) (Or.inl ⟨by rfl, ?_⟩) hHeld ?_ ?_
          rotate_left
          · rintro w' ⟨s0, s1⟩
            go_simp
            with_reducible rfl
          rotate_left
          · simp only [Act.put, List.setIfInBounds_toArray, List.set_cons_zero, List.set_cons_succ, i64_w, i32_w]
            rfl
          refine pure_ (i := 8) (N := some 115) (v := ?_) (a' := ?_) #[true, true, true, true, true, true, true, true, true, false, false, false, false, false, false, false] rfl rfl (by kernel_rfl) (fun _ _ _ h => h) (Or.inl ⟨by rfl, ?_⟩) ?_ ?_
          rotate_left
          · intro w'
            go_simp
            with_reducible rfl
          rotate_left
          · simp only [Act.put, List.setIfInBounds_toArray, List.set_cons_zero, List.set_cons_succ, i64_w, i32_w]
            rfl
          refine pure_ (i := 9) (N := some 116) (v := ?_) (a' := ?_) #[true, true, true, true, true, true, true, true, true, true, false, false, false, false, false, false] rfl rfl (by kernel_rfl) (fun _ _ _ h => h) (Or.inl ⟨by rfl, ?_⟩) ?_ ?_
          rotate_left
          · intro w'
            go_simp
            with_reducible rfl
          rotate_left
          · simp only [Act.put, List.setIfInBounds_toArray, List.set_cons_zero, List.set_cons_succ, i64_w, i32_w]
            rfl
          refine pure_ (i := 10) (N := some 117) (v := ?_) (a' := ?_) #[true, true, true, true, true, true, true, true, true, true, true, false, false, false, false, false] rfl rfl (by kernel_rfl) (fun _ _ _ h => h) (Or.inl ⟨by rfl, ?_⟩) ?_ ?_
          rotate_left
          · intro w'
            go_simp
            with_reducible rfl
          rotate_left
          · simp only [Act.put, List.setIfInBounds_toArray, List.set_cons_zero, List.set_cons_succ, i64_w, i32_w]
            rfl
          refine pure_ (i := 11) (N := some 118) (v := ?_) (a' := ?_) #[true, true, true, true, true, true, true, true, true, true, true, true, false, false, false, false] rfl rfl (by kernel_rfl) (fun _ _ _ h => h) (Or.inl ⟨by rfl, ?_⟩) ?_ ?_
          rotate_left
          · intro w'
            go_simp
            with_reducible rfl
          rotate_left
          · simp only [Act.put, List.setIfInBounds_toArray, List.set_cons_zero, List.set_cons_succ, i64_w, i32_w]
            rfl
          refine pure_ (i := 12) (N := some 119) (v := ?_) (a' := ?_) #[true, true, true, true, true, true, true, true, true, true, true, true, true, false, false, false] rfl rfl (by kernel_rfl) (fun _ _ _ h => h) (Or.inl ⟨by rfl, ?_⟩) ?_ ?_
          rotate_left
          · intro w'
            go_simp
            with_reducible rfl
          rotate_left
          · simp only [Act.put, List.setIfInBounds_toArray, List.set_cons_zero, List.set_cons_succ, i64_w, i32_w]
            rfl
          refine take_ (i := 13) (N := some 120) (v := ?_) (a' := ?_) #[true, true, true, true, true, true, true, true, true, true, true, true, true, true, false, false] rfl rfl (by kernel_rfl) (fun _ _ _ h => h) (Or.inl ⟨by rfl, ?_⟩) hHeld ?_ ?_
          rotate_left
          · rintro w' ⟨s0, s1⟩
            go_simp
            with_reducible rfl
          rotate_left
          · simp only [Act.put, List.setIfInBounds_toArray, List.set_cons_zero, List.set_cons_succ, i64_w, i32_w]
            rfl
          refine pure_ (i := 14) (N := some 121) (v := ?_) (a' := ?_) #[true, true, true, true, true, true, true, true, true, true, true, true, true, true, true, false] rfl rfl (by kernel_rfl) (fun _ _ _ h => h) (Or.inl ⟨by rfl, ?_⟩) ?_ ?_
          rotate_left
          · intro w'
            go_simp
            with_reducible rfl
          rotate_left
          · simp only [Act.put, List.setIfInBounds_toArray, List.set_cons_zero, List.set_cons_succ, i64_w, i32_w]
            rfl
          refine pure_ (i := 15) (N := some 122) (v := ?_) (a' := ?_) #[true, true, true, true, true, true, true, true, true, true, true, true, true, true, true, true] rfl rfl (by kernel_rfl) (fun _ _ _ h => h) (Or.inl ⟨by rfl, ?_⟩) ?_ ?_
          rotate_left
          · intro w'
            go_simp
            with_reducible rfl
          rotate_left
          · simp only [Act.put, List.setIfInBounds_toArray, List.set_cons_zero, List.set_cons_succ, i64_w, i32_w]
            rfl
          refine done_ (by kernel_rfl) ?_
          clear hHeld
          go_upto_region 27 with fail
          refine start_ (n := 19) (S := fun w' => w'.cell? (ad.add (i * 4)) = some (.string xp) ∧ w'.cell? ⟨(ad.add (i * 4)).block, (ad.add (i * 4)).off + 1, none⟩ = some (.string xn) ∧ w'.cell? ⟨(ad.add (i * 4)).block, (ad.add (i * 4)).off + 2, none⟩ = some (.string xs) ∧ w'.cell? ⟨(ad.add (i * 4)).block, (ad.add (i * 4)).off + 3, none⟩ = some (.int .i64 xv) ∧ w'.cell? (ad.add (j * 4)) = some (.string yp) ∧ w'.cell? ⟨(ad.add (j * 4)).block, (ad.add (j * 4)).off + 1, none⟩ = some (.string yn) ∧ w'.cell? ⟨(ad.add (j * 4)).block, (ad.add (j * 4)).off + 2, none⟩ = some (.string ys) ∧ w'.cell? ⟨(ad.add (j * 4)).block, (ad.add (j * 4)).off + 3, none⟩ = some (.int .i64 yv)) (ds := []) #[false, false, false, false, false, false, false, false, false, false, false, false, false, false, false, false, false, false, false] (by kernel_rfl) rfl rfl (CELL.out _ (below_drew1 HBq.out)) (fun hHeld => ?_)
          have HBr := Aside0.mk (below_drew1 HBq.out)
          clear HBq
          have HBq := HBr
          clear HBr
          generalize World.drew _ = wd at HBq hHeld ⊢
          refine pure_ (i := 0) (N := some 123) (v := ?_) (a' := ?_) #[true, false, false, false, false, false, false, false, false, false, false, false, false, false, false, false, false, false, false] rfl rfl (by kernel_rfl) (fun _ _ _ h => h) (Or.inl ⟨by rfl, ?_⟩) ?_ ?_
          rotate_left
          · intro w'
            go_simp
            with_reducible rfl
          rotate_left
          · simp only [Act.put, List.setIfInBounds_toArray, List.set_cons_zero, List.set_cons_succ, i64_w, i32_w]
            rfl
          refine pure_ (i := 1) (N := some 124) (v := ?_) (a' := ?_) #[true, true, false, false, false, false, false, false, false, false, false, false, false, false, false, false, false, false, false] rfl rfl (by kernel_rfl) (fun _ _ _ h => h) (Or.inl ⟨by rfl, ?_⟩) ?_ ?_
          rotate_left
          · intro w'
            go_simp
            with_reducible rfl
          rotate_left
          · simp only [Act.put, List.setIfInBounds_toArray, List.set_cons_zero, List.set_cons_succ, i64_w, i32_w]
            rfl
          refine pure_ (i := 2) (N := some 125) (v := ?_) (a' := ?_) #[true, true, true, false, false, false, false, false, false, false, false, false, false, false, false, false, false, false, false] rfl rfl (by kernel_rfl) (fun _ _ _ h => h) (Or.inl ⟨by rfl, ?_⟩) ?_ ?_
          rotate_left
          · intro w'
            go_simp
            with_reducible rfl
          rotate_left
          · simp only [Act.put, List.setIfInBounds_toArray, List.set_cons_zero, List.set_cons_succ, i64_w, i32_w]
            rfl
          refine pure_ (i := 3) (N := some 126) (v := ?_) (a' := ?_) #[true, true, true, true, false, false, false, false, false, false, false, false, false, false, false, false, false, false, false] rfl rfl (by kernel_rfl) (fun _ _ _ h => h) (Or.inl ⟨by rfl, ?_⟩) ?_ ?_
          rotate_left
          · intro w'
            go_simp
            with_reducible rfl
          rotate_left
          · simp only [Act.put, List.setIfInBounds_toArray, List.set_cons_zero, List.set_cons_succ, i64_w, i32_w]
            rfl
          refine pure_ (i := 4) (N := some 127) (v := ?_) (a' := ?_) #[true, true, true, true, true, false, false, false, false, false, false, false, false, false, false, false, false, false, false] rfl rfl (by kernel_rfl) (fun _ _ _ h => h) (Or.inl ⟨by rfl, ?_⟩) ?_ ?_
          rotate_left
          · intro w'
            go_simp
            with_reducible rfl
          rotate_left
          · simp only [Act.put, List.setIfInBounds_toArray, List.set_cons_zero, List.set_cons_succ, i64_w, i32_w]
            rfl
          refine pure_ (i := 5) (N := some 128) (v := ?_) (a' := ?_) #[true, true, true, true, true, true, false, false, false, false, false, false, false, false, false, false, false, false, false] rfl rfl (by kernel_rfl) (fun _ _ _ h => h) (Or.inl ⟨by rfl, ?_⟩) ?_ ?_
          rotate_left
          · intro w'
            go_simp
            with_reducible rfl
          rotate_left
          · simp only [Act.put, List.setIfInBounds_toArray, List.set_cons_zero, List.set_cons_succ, i64_w, i32_w]
            rfl
          refine pure_ (i := 6) (N := some 129) (v := ?_) (a' := ?_) #[true, true, true, true, true, true, true, false, false, false, false, false, false, false, false, false, false, false, false] rfl rfl (by kernel_rfl) (fun _ _ _ h => h) (Or.inl ⟨by rfl, ?_⟩) ?_ ?_
          rotate_left
          · intro w'
            go_simp
            with_reducible rfl
          rotate_left
          · simp only [Act.put, List.setIfInBounds_toArray, List.set_cons_zero, List.set_cons_succ, i64_w, i32_w]
            rfl
          refine pure_ (i := 7) (N := some 130) (v := ?_) (a' := ?_) #[true, true, true, true, true, true, true, true, false, false, false, false, false, false, false, false, false, false, false] rfl rfl (by kernel_rfl) (fun _ _ _ h => h) (Or.inl ⟨by rfl, ?_⟩) ?_ ?_
          rotate_left
          · intro w'
            go_simp
            with_reducible rfl
          rotate_left
          · simp only [Act.put, List.setIfInBounds_toArray, List.set_cons_zero, List.set_cons_succ, i64_w, i32_w]
            rfl
          refine pure_ (i := 8) (N := some 131) (v := ?_) (a' := ?_) #[true, true, true, true, true, true, true, true, true, false, false, false, false, false, false, false, false, false, false] rfl rfl (by kernel_rfl) (fun _ _ _ h => h) (Or.inl ⟨by rfl, ?_⟩) ?_ ?_
          rotate_left
          · intro w'
            go_simp
            with_reducible rfl
          rotate_left
          · simp only [Act.put, List.setIfInBounds_toArray, List.set_cons_zero, List.set_cons_succ, i64_w, i32_w]
            rfl
          refine pure_ (i := 9) (N := some 132) (v := ?_) (a' := ?_) #[true, true, true, true, true, true, true, true, true, true, false, false, false, false, false, false, false, false, false] rfl rfl (by kernel_rfl) (fun _ _ _ h => h) (Or.inl ⟨by rfl, ?_⟩) ?_ ?_
          rotate_left
          · intro w'
            go_simp
            with_reducible rfl
          rotate_left
          · simp only [Act.put, List.setIfInBounds_toArray, List.set_cons_zero, List.set_cons_succ, i64_w, i32_w]
            rfl
          refine take_ (i := 10) (N := some 133) (v := ?_) (a' := ?_) #[true, true, true, true, true, true, true, true, true, true, true, false, false, false, false, false, false, false, false] rfl rfl (by kernel_rfl) (fun _ _ _ h => h) (Or.inl ⟨by rfl, ?_⟩) hHeld ?_ ?_
          rotate_left
          · rintro w' ⟨s0, s1, s2, s3, s4, s5, s6, s7⟩
            go_simp
            with_reducible rfl
          rotate_left
          · simp only [Act.put, List.setIfInBounds_toArray, List.set_cons_zero, List.set_cons_succ, i64_w, i32_w]
            rfl
          refine pure_ (i := 11) (N := some 134) (v := ?_) (a' := ?_) #[true, true, true, true, true, true, true, true, true, true, true, true, false, false, false, false, false, false, false] rfl rfl (by kernel_rfl) (fun _ _ _ h => h) (Or.inl ⟨by rfl, ?_⟩) ?_ ?_
          rotate_left
          · intro w'
            go_simp
            with_reducible rfl
          rotate_left
          · simp only [Act.put, List.setIfInBounds_toArray, List.set_cons_zero, List.set_cons_succ, i64_w, i32_w]
            rfl
          refine pure_ (i := 12) (N := some 135) (v := ?_) (a' := ?_) #[true, true, true, true, true, true, true, true, true, true, true, true, true, false, false, false, false, false, false] rfl rfl (by kernel_rfl) (fun _ _ _ h => h) (Or.inl ⟨by rfl, ?_⟩) ?_ ?_
          rotate_left
          · intro w'
            go_simp
            with_reducible rfl
          rotate_left
          · simp only [Act.put, List.setIfInBounds_toArray, List.set_cons_zero, List.set_cons_succ, i64_w, i32_w]
            rfl
          refine pure_ (i := 13) (N := some 136) (v := ?_) (a' := ?_) #[true, true, true, true, true, true, true, true, true, true, true, true, true, true, false, false, false, false, false] rfl rfl (by kernel_rfl) (fun _ _ _ h => h) (Or.inl ⟨by rfl, ?_⟩) ?_ ?_
          rotate_left
          · intro w'
            go_simp
            with_reducible rfl
          rotate_left
          · simp only [Act.put, List.setIfInBounds_toArray, List.set_cons_zero, List.set_cons_succ, i64_w, i32_w]
            rfl
          refine take_ (i := 14) (N := some 137) (v := ?_) (a' := ?_) #[true, true, true, true, true, true, true, true, true, true, true, true, true, true, true, false, false, false, false] rfl rfl (by kernel_rfl) (fun _ _ _ h => h) (Or.inl ⟨by rfl, ?_⟩) hHeld ?_ ?_
          rotate_left
          · rintro w' ⟨s0, s1, s2, s3, s4, s5, s6, s7⟩
            go_simp
            with_reducible rfl
          rotate_left
          · simp only [Act.put, List.setIfInBounds_toArray, List.set_cons_zero, List.set_cons_succ, i64_w, i32_w]
            rfl
          refine one_ (i := 15) (N := some 138) #[true, true, true, true, true, true, true, true, true, true, true, true, true, true, true, true, false, false, false] rfl rfl (by kernel_rfl) (by decide) (fun K hK => ?_)
          refine goes_ Tryd.func24 (by kernel_rfl) rfl #[.agg #[.string yp, .string yn, .string ys, .int .i64 yv], .agg #[.string xp, .string xn, .string xs, .int .i64 xv]] (by rfl) rfl rfl (by (try simp only [List.map_toArray, List.map_cons, List.map_nil]); first | done | rfl) ?_
          with_reducible refine (RC.out _ HBq.out).mono ?_
          rintro e wz ⟨rfl, hb⟩
          have HBr := Aside0.mk (HBq.out.trans (below_lower hb HBq.out.size))
          clear HBq hb
          have HBq := HBr
          clear HBr
          refine ⟨_, rfl, ?_⟩
          refine hK.out _ _ (CELL.out _ HBq.out) (fun hHeld => ?_)
          clear hK K
          refine norm_ (a' := ?_) ?_ ?_
          rotate_left
          · show Act.put _ (some 138) _ = _
            simp only [Act.put, List.setIfInBounds_toArray, List.set_cons_zero, List.set_cons_succ, i64_w, i32_w]
            rfl
          refine pure_ (i := 16) (N := some 139) (v := ?_) (a' := ?_) #[true, true, true, true, true, true, true, true, true, true, true, true, true, true, true, true, true, false, false] rfl rfl (by kernel_rfl) (fun _ _ _ h => h) (Or.inl ⟨by rfl, ?_⟩) ?_ ?_
          rotate_left
          · intro w'
            go_simp
            with_reducible rfl
          rotate_left
          · simp only [Act.put, List.setIfInBounds_toArray, List.set_cons_zero, List.set_cons_succ, i64_w, i32_w]
            rfl
          refine pure_ (i := 17) (N := some 140) (v := ?_) (a' := ?_) #[true, true, true, true, true, true, true, true, true, true, true, true, true, true, true, true, true, true, false] rfl rfl (by kernel_rfl) (fun _ _ _ h => h) (Or.inl ⟨by rfl, ?_⟩) ?_ ?_
          rotate_left
          · intro w'
            go_simp
            with_reducible rfl
          rotate_left
          · simp only [Act.put, List.setIfInBounds_toArray, List.set_cons_zero, List.set_cons_succ, i64_w, i32_w]
            rfl
          refine pure_ (i := 18) (N := some 141) (v := ?_) (a' := ?_) #[true, true, true, true, true, true, true, true, true, true, true, true, true, true, true, true, true, true, true] rfl rfl (by kernel_rfl) (fun _ _ _ h => h) (Or.inl ⟨by rfl, ?_⟩) ?_ ?_
          rotate_left
          · intro w'
            go_simp
            with_reducible rfl
          rotate_left
          · simp only [Act.put, List.setIfInBounds_toArray, List.set_cons_zero, List.set_cons_succ, i64_w, i32_w]
            rfl
          refine done_ (by kernel_rfl) ?_
          clear hHeld
          go_wp2
          go_roundg g0
          case measure => omega
          case rel => exact ⟨i + 1, 1, rfl, congrArg (Value.int .i64) HI1.out, ⟨by have := HI.out; omega⟩, ⟨HND.out⟩, HBq⟩
    have RST2 := Lib.hid REST2
    clear REST2 hK2
    go_loopg [9] od.length (fun g v9 wr => ∃ (i : Nat) (m : List Bnd), v9 = .int .i64 (i : Int) ∧ Aside0 (i + g = od.length) ∧ Aside0 (m.Perm L) ∧ Aside0 (Kd.R k27 27 wr w3.heap.size (fun _ => True) (.slice Am L.length cm) m) ∧ Aside0 (Below w3.heap.size w3 wr))
    case atStart => exact ⟨0, L, rfl, ⟨by omega⟩, ⟨.refl _⟩, O4, B4⟩
    case round =>
      clear O4 B4
      obtain ⟨i, m, rfl, HI, HMP, HMR, HMB⟩ := hrel
      by_cases hi : i < od.length
      rotate_left
      · have d1 : decide ((i : Int) < (od.length : Int)) = false := decide_eq_false (by omega)
        have d1n : decide (i < od.length) = false := decide_eq_false hi
        clear hi
        go_wp2
        exact RST2.out _ _ _ _ _ _ _ _ _ _ _ _ _ _ _ _ _ _ _ _ _ _ _ _ _ _ _ _ _ _ _ _ _ _ _ _ _ _ _ _ _ _ _ m _ HMP HMR HMB
      have d1 : decide ((i : Int) < (od.length : Int)) = true := decide_eq_true (by omega)
      have d1n : decide (i < od.length) = true := decide_eq_true hi
      by_cases hn : 0 < L.length
      rotate_left
      · have d2 : decide (0 < (L.length : Int)) = false := decide_eq_false (by omega)
        have d2n : decide (0 < L.length) = false := decide_eq_false hn
        clear hi hn
        go_wp2
        exact RST2.out _ _ _ _ _ _ _ _ _ _ _ _ _ _ _ _ _ _ _ _ _ _ _ _ _ _ _ _ _ _ _ _ _ _ _ _ _ _ _ _ _ _ _ m _ HMP HMR HMB
      have d2 : decide (0 < (L.length : Int)) = true := decide_eq_true (by omega)
      have d2n : decide (0 < L.length) = true := decide_eq_true hn
      clear RST2
      have hml := HMP.out.length_eq
      obtain ⟨za, hA, hz⟩ := int_at (Kd.C_below CO.out (B3.out.trans (below_lower HMB.out B3.out.size))) hi
      cases hA
      obtain ⟨g0, rfl⟩ : ∃ g0, gk = g0 + 1 := ⟨gk - 1, by have := HI.out; omega⟩
      have HLT := Lib.hid hi
      have HOL := Lib.hid hol
      have p1 : (0 ≤ (i : Int)) = True := eq_true (by omega)
      have p2 : ((i : Int) < (od.length : Int)) = True := eq_true (by omega)
      generalize od[i] = z at hz
      obtain ⟨a, ha, hza⟩ : ∃ a : Nat, a < L.length ∧ ((z % 1024).tmod (L.length : Int)) = (a : Int) := by
        rw [Int.tmod_eq_emod_of_nonneg (Int.emod_nonneg _ (by decide))]
        exact ⟨(z % 1024 % (L.length : Int)).toNat, by have := Int.emod_lt_of_pos (z % 1024) (show (0 : Int) < L.length by omega); have := Int.emod_nonneg (z % 1024) (show (L.length : Int) ≠ 0 by omega); omega, by have := Int.emod_nonneg (z % 1024) (show (L.length : Int) ≠ 0 by omega); omega⟩
      obtain ⟨b2, hb2, hzb⟩ : ∃ b2 : Nat, b2 < L.length ∧ ((i : Int).tmod (L.length : Int)) = (b2 : Int) := by
        rw [Int.tmod_eq_emod_of_nonneg (by omega)]
        exact ⟨((i : Int) % (L.length : Int)).toNat, by have := Int.emod_lt_of_pos (i : Int) (show (0 : Int) < L.length by omega); have := Int.emod_nonneg (i : Int) (show (L.length : Int) ≠ 0 by omega); omega, by have := Int.emod_nonneg (i : Int) (show (L.length : Int) ≠ 0 by omega); omega⟩
      have hlne : (L = []) = False := eq_false (by intro e; rw [e] at hn; simp at hn)
      obtain ⟨g, hAm, hgb⟩ := R_own HMR.out hn
      subst hAm
      have HR0 := Aside0.mk (show Kd.R k27 27 wr w3.heap.size (fun _ => True) (.slice (some ⟨g, 0, none⟩) m.length cm) m by rw [hml]; exact HMR.out)
      have ha' : a < m.length := by omega
      have hb' : b2 < m.length := by omega
      have hca := (R_cells HR0.out a ha').1
      have hcb := (R_cells HR0.out b2 hb').1
      have HSW := Lib.hid (swap_perm ha' hb')
      have HGB := Lib.hid hgb
      have HAB := Lib.hid (And.intro ha' hb')
      have HML := Lib.hid hml
      generalize m[a] = xa at hca HSW
      generalize m[b2] = xb at hcb HSW
      obtain ⟨xp, xn, xs, xv⟩ := xa
      obtain ⟨yp, yn, ys, yv⟩ := xb
      have hx0 : wr.cell? ⟨g, a * 4, none⟩ = some (.string xp) := hca 0 (.string xp) rfl
      have hx1 := hca 1 (.string xn) rfl
      have hx2 := hca 2 (.string xs) rfl
      have hx3 := hca 3 (.int .i64 xv) rfl
      have HCB := Lib.hid (show ∀ w' : World, w'.heap[g]? = wr.heap[g]? → w'.cell? ⟨g, b2 * 4, none⟩ = some (.string yp) ∧ w'.cell? ⟨g, b2 * 4 + 1, none⟩ = some (.string yn) ∧ w'.cell? ⟨g, b2 * 4 + 2, none⟩ = some (.string ys) ∧ w'.cell? ⟨g, b2 * 4 + 3, none⟩ = some (.int .i64 yv) from fun w' he => by
        refine ⟨?_, ?_, ?_, ?_⟩
        · rw [World.cell?_of_block (w := wr) he]; exact hcb 0 (.string yp) rfl
        · rw [World.cell?_of_block (w := wr) he]; exact hcb 1 (.string yn) rfl
        · rw [World.cell?_of_block (w := wr) he]; exact hcb 2 (.string ys) rfl
        · rw [World.cell?_of_block (w := wr) he]; exact hcb 3 (.int .i64 yv) rfl)
      have pa1 : (0 ≤ (a : Int)) = True := eq_true (by omega)
      have pa2 : ((a : Int) < (L.length : Int)) = True := eq_true (by omega)
      have pb1 : (0 ≤ (b2 : Int)) = True := eq_true (by omega)
      have pb2 : ((b2 : Int) < (L.length : Int)) = True := eq_true (by omega)
      clear hca hcb hml hgb ha' hb' HMR
      go_upto_region 15 with fail
      have HGL := Lib.hid (show g < wr.heap.size from R_lt HR0.out)
      have B5 := Aside0.mk (HMB.out.alloc HMB.out.size (.cells #[.string xp, .string xn, .string xs, .int .i64 xv] 27))
      have R5 := Aside0.mk (Kd.R_alloc HR0.out (.cells #[.string xp, .string xn, .string xs, .int .i64 xv] 27))
      have N5 := Aside0.mk (blk_new wr (.cells #[.string xp, .string xn, .string xs, .int .i64 xv] 27))
      have hcb5 := HCB.out (wr.alloc (.cells #[.string xp, .string xn, .string xs, .int .i64 xv] 27)) (heap_alloc_old wr _ HGL.out)
      have hca5 := (R_cells R5.out a HAB.out.1).1
      have hfr5 := (R_cells R5.out a HAB.out.1).2
      obtain ⟨xx, hxx⟩ : ∃ xx, xx = wr.heap.size := ⟨_, rfl⟩
      have HXX := Lib.hid (show g < xx by rw [hxx]; exact HGL.out)
      rw [← hxx] at N5 ⊢
      clear hxx hx0 hx1 hx2 hx3 HR0 HMB
      generalize wr.alloc _ = w5 at B5 R5 N5 hcb5 hca5 hfr5 ⊢
      obtain ⟨hy0, hy1, hy2, hy3⟩ := hcb5
      have hz0 : w5.cell? ⟨g, a * 4, none⟩ = _ := hca5 0 _ rfl
      have hz1 := hca5 1 _ rfl
      have hz2 := hca5 2 _ rfl
      have hz3 := hca5 3 _ rfl
      have hf0 := hfr5 (a * 4)
      have hf1 := hfr5 (a * 4 + 1)
      have hf2 := hfr5 (a * 4 + 2)
      have hf3 := hfr5 (a * 4 + 3)
      clear hca5 hfr5
      go_upto_region 16 with fail
      have hbq := below_put4 (b0 := .string yp) (b1 := .string yn) (b2 := .string ys) (b3 := .int .i64 yv) (Below.refl g w5) (Nat.le_refl g)
      have B6 := Aside0.mk (put4_below B5.out HGB.out (a * 4) ⟨yp, yn, ys, yv⟩)
      have R6 := Aside0.mk (R_put4 R5.out a HAB.out.1 ⟨yp, yn, ys, yv⟩)
      have N6 := Aside0.mk (((put4_grown w5 g (a * 4) ⟨yp, yn, ys, yv⟩).block xx (blk_lt N5.out) (by have := HXX.out; intro e; injection e with e; omega)).trans N5.out)
      simp only [put4] at B6 R6 N6
      clear hbq hy0 hy1 hy2 hy3 hz0 hz1 hz2 hz3 hf0 hf1 hf2 hf3 B5 R5 N5
      generalize World.setCell _ _ _ = w6 at B6 R6 N6 ⊢
      refine start_ (n := 8) (S := fun w' => w'.cell? ⟨xx, 0, none⟩ = some (.string xp) ∧ w'.cell? ⟨xx, 1, none⟩ = some (.string xn) ∧ w'.cell? ⟨xx, 2, none⟩ = some (.string xs) ∧ w'.cell? ⟨xx, 3, none⟩ = some (.int .i64 xv)) (ds := [7]) #[false, false, false, false, false, false, false, false] (by kernel_rfl) rfl rfl ⟨(blk_cell N6.out 0).trans rfl, (blk_cell N6.out 1).trans rfl, (blk_cell N6.out 2).trans rfl, (blk_cell N6.out 3).trans rfl⟩ (fun hHeld => ?_)
      have B7 := Aside0.mk (below_drew1 B6.out)
      have R7 := Aside0.mk (Kd.R_drew R6.out)
      clear B6 R6 N6
      generalize w6.drew = w7 at B7 R7 hHeld ⊢
      refine pure_ (i := 0) (N := some 74) (v := ?_) (a' := ?_) #[true, false, false, false, false, false, false, false] rfl rfl (by kernel_rfl) (fun _ _ _ h => h) (Or.inl ⟨by rfl, ?_⟩) ?_ ?_
      rotate_left
      · intro w'
        go_simp
        with_reducible rfl
      rotate_left
      · simp only [Act.put, List.setIfInBounds_toArray, List.set_cons_zero, List.set_cons_succ, i64_w, i32_w]
        rfl
      refine pure_ (i := 1) (N := some 75) (v := ?_) (a' := ?_) #[true, true, false, false, false, false, false, false] rfl rfl (by kernel_rfl) (fun _ _ _ h => h) (Or.inl ⟨by rfl, ?_⟩) ?_ ?_
      rotate_left
      · intro w'
        go_simp
        with_reducible rfl
      rotate_left
      · simp only [Act.put, List.setIfInBounds_toArray, List.set_cons_zero, List.set_cons_succ, i64_w, i32_w]
        rfl
      refine pure_ (i := 2) (N := some 76) (v := ?_) (a' := ?_) #[true, true, true, false, false, false, false, false] rfl rfl (by kernel_rfl) (fun _ _ _ h => h) (Or.inl ⟨by rfl, ?_⟩) ?_ ?_
      rotate_left
      · intro w'
        go_simp
        with_reducible rfl
      rotate_left
      · simp only [Act.put, List.setIfInBounds_toArray, List.set_cons_zero, List.set_cons_succ, i64_w, i32_w]
        rfl
      refine pure_ (i := 3) (N := some 77) (v := ?_) (a' := ?_) #[true, true, true, true, false, false, false, false] rfl rfl (by kernel_rfl) (fun _ _ _ h => h) (Or.inl ⟨by rfl, ?_⟩) ?_ ?_
      rotate_left
      · intro w'
        go_simp
        with_reducible rfl
      rotate_left
      · simp only [Act.put, List.setIfInBounds_toArray, List.set_cons_zero, List.set_cons_succ, i64_w, i32_w]
        rfl
      refine pure_ (i := 4) (N := some 78) (v := ?_) (a' := ?_) #[true, true, true, true, true, false, false, false] rfl rfl (by kernel_rfl) (fun _ _ _ h => h) (Or.inl ⟨by rfl, ?_⟩) ?_ ?_
      rotate_left
      · intro w'
        go_simp
        with_reducible rfl
      rotate_left
      · simp only [Act.put, List.setIfInBounds_toArray, List.set_cons_zero, List.set_cons_succ, i64_w, i32_w]
        rfl
      refine take_ (i := 5) (N := some 79) (v := ?_) (a' := ?_) #[true, true, true, true, true, true, false, false] rfl rfl (by kernel_rfl) (fun _ _ _ h => h) (Or.inl ⟨by rfl, ?_⟩) hHeld ?_ ?_
      rotate_left
      · rintro w' ⟨s0, s1, s2, s3⟩
        go_simp
        with_reducible rfl
      rotate_left
      · simp only [Act.put, List.setIfInBounds_toArray, List.set_cons_zero, List.set_cons_succ, i64_w, i32_w]
        rfl
      refine pure_ (i := 6) (N := some 80) (v := ?_) (a' := ?_) #[true, true, true, true, true, true, true, false] rfl rfl (by kernel_rfl) (fun _ _ _ h => h) (Or.inl ⟨by rfl, ?_⟩) ?_ ?_
      rotate_left
      · intro w'
        go_simp
        with_reducible rfl
      rotate_left
      · simp only [Act.put, List.setIfInBounds_toArray, List.set_cons_zero, List.set_cons_succ, i64_w, i32_w]
        rfl
      refine last_ (i := 7) (N := none) #[true, true, true, true, true, true, true, true] rfl rfl (by kernel_rfl) (by decide) (fun K hK => ?_)
      have hm7 : (m.set a ⟨yp, yn, ys, yv⟩).length = m.length := List.length_set
      have R7b := Aside0.mk (show Kd.R k27 27 w7 w3.heap.size (fun _ => True) (.slice (some ⟨g, 0, none⟩) (m.set a ⟨yp, yn, ys, yv⟩).length cm) (m.set a ⟨yp, yn, ys, yv⟩) by rw [hm7]; exact R7.out)
      have hb7 : b2 < (m.set a ⟨yp, yn, ys, yv⟩).length := by rw [hm7]; exact HAB.out.2
      have hc7 := (R_cells R7b.out b2 hb7).1
      have hfr7 := (R_cells R7b.out b2 hb7).2
      have hz0 : w7.cell? ⟨g, b2 * 4, none⟩ = _ := hc7 0 _ rfl
      have hz1 := hc7 1 _ rfl
      have hz2 := hc7 2 _ rfl
      have hz3 := hc7 3 _ rfl
      have hf0 := hfr7 (b2 * 4)
      have hf1 := hfr7 (b2 * 4 + 1)
      have hf2 := hfr7 (b2 * 4 + 2)
      have hf3 := hfr7 (b2 * 4 + 3)
      have B8 := Aside0.mk (put4_below B7.out HGB.out (b2 * 4) ⟨xp, xn, xs, xv⟩)
      have R8 := Aside0.mk (R_put4 R7b.out b2 hb7 ⟨xp, xn, xs, xv⟩)
      have HM8 := Lib.hid (show (m.set a ⟨yp, yn, ys, yv⟩).length = L.length by rw [hm7, HML.out])
      simp only [put4] at B8 R8
      clear hc7 hfr7 hm7 R7 R7b
      refine skip_ (w1 := ?_) (by rfl) rfl ?_ ?_
      rotate_left
      · go_simp
        rfl
      refine hK.out _ _ ?_
      clear hK K
      refine done_ (by kernel_rfl) ?_
      clear hz0 hz1 hz2 hz3 hf0 hf1 hf2 hf3 B7 hHeld
      generalize World.setCell _ _ _ = w8 at B8 R8 ⊢
      go_wp2
      go_roundg g0
      case measure => omega
      case rel => exact ⟨i + 1, _, congrArg (Value.int .i64) (by have := HLT.out; first | omega | (rw [w64 i (by have := HOL.out; omega)])), ⟨by have := HI.out; omega⟩, ⟨HSW.out.trans HMP.out⟩, ⟨by rw [← HM8.out]; exact R8.out⟩, B8⟩
  clear hK1
  go_loopg [6] 60 (fun g v8 wr => ∃ (i : Nat) (M : Tab), v8 = .int .i64 (i : Int) ∧ Aside0 (i + g = 60) ∧ Aside0 (M.length ≤ i) ∧ Aside0 (∀ q, cnt q M ≤ 16) ∧ Aside0 (TB wr t b M) ∧ Aside0 (Below w.heap.size w wr))
  case atStart => exact ⟨0, [], rfl, ⟨rfl⟩, ⟨Nat.le_refl _⟩, ⟨fun q => Nat.zero_le _⟩, T2, B2⟩
  case round =>
    clear T2 B2
    obtain ⟨i, M, rfl, HI, HM, HF, HT, HB⟩ := hrel
    by_cases hi : i < l.length
    rotate_left
    · have d1 : decide ((i : Int) < (l.length : Int)) = false := decide_eq_false (by omega)
      have d1n : decide (i < l.length) = false := decide_eq_false hi
      clear hi
      have HM60 := Aside0.mk (show M.length ≤ 60 by have := HM.out; have := HI.out; omega)
      go_wp2
      exact REST1 _ _ _ _ _ _ _ _ _ _ _ _ _ _ _ _ _ M _ HM60 HF HT HB
    by_cases h60 : i < 60
    rotate_left
    · have d1 : decide ((i : Int) < (l.length : Int)) = true := decide_eq_true (by omega)
      have d1n : decide (i < l.length) = true := decide_eq_true hi
      have d2 : decide ((i : Int) < 60) = false := decide_eq_false (by omega)
      have d2n : decide (i < 60) = false := decide_eq_false h60
      clear hi h60
      have HM60 := Aside0.mk (show M.length ≤ 60 by have := HM.out; have := HI.out; omega)
      go_wp2
      exact REST1 _ _ _ _ _ _ _ _ _ _ _ _ _ _ _ _ _ M _ HM60 HF HT HB
    clear REST1
    have d1 : decide ((i : Int) < (l.length : Int)) = true := decide_eq_true (by omega)
    have d2 : decide ((i : Int) < 60) = true := decide_eq_true (by omega)
    have d1n : decide (i < l.length) = true := decide_eq_true hi
    have d2n : decide (i < 60) = true := decide_eq_true h60
    have p115 : (0 ≤ (i : Int)) = True := eq_true (by omega)
    have q115 : ((i : Int) < (l.length : Int)) = True := eq_true (by omega)
    obtain ⟨ad, hA, hx0, hx⟩ := op_at (Kd.C_below C1.out HB.out) i hi
    obtain ⟨g0, rfl⟩ : ∃ g0, gk = g0 + 1 := ⟨gk - 1, by have := HI.out; omega⟩
    have PL := Lib.hid (play_ok wr t b M l[i] HT.out (G1.out.below HB.out) (by have := HM.out; omega))
    have PM := Lib.hid (playM_len M l[i])
    have PF := Lib.hid (few_play (o := l[i]) HF.out)
    unfold eO at PL
    generalize l[i] = o at hx0 hx PL PM PF
    cases hA
    obtain ⟨two2, kd2, vb2, ⟨bp2, bn2, bs2, bv2⟩, pa2, na2, su2⟩ := o
    have hx1 := hx 1 (.int .i64 kd2) (by decide) rfl
    have hx2 := hx 2 (.int .i64 vb2) (by decide) rfl
    have hx3 := hx 3 (.string bp2) (by decide) rfl
    have hx4 := hx 4 (.string bn2) (by decide) rfl
    have hx5 := hx 5 (.string bs2) (by decide) rfl
    have hx6 := hx 6 (.int .i64 bv2) (by decide) rfl
    have hx7 := hx 7 (.string pa2) (by decide) rfl
    have hx8 := hx 8 (.string na2) (by decide) rfl
    have hx9 := hx 9 (.string su2) (by decide) rfl
    go_wp2_with (go_at_call 11; refine PL.out.mono ?_; rintro e wx ⟨rfl, hT, ho⟩; have T5 := Aside0.mk hT; have B5 := Aside0.mk (HB.out.trans (ho.belowB HTB.out.2 HB.out.size)); clear hT ho)
    go_roundg g0
    case measure => omega
    case rel => exact ⟨i + 1, playM M ⟨two2, kd2, vb2, ⟨bp2, bn2, bs2, bv2⟩, pa2, na2, su2⟩, congrArg (Value.int .i64) (by omega), ⟨by have := HI.out; omega⟩, ⟨by have := PM.out; have := HM.out; omega⟩, ⟨PF.out⟩, T5, B5⟩
end Go.Proofs.YtphddbijdfmpjaaDoor.Q
namespace Go.Proofs.YtphddbijdfmpjaaDoor.Q
open Go.RowKit Go.ChangeShapes Go.Proofs.YtphddbijdfmpjaaDoorW.PrintWords Go.Proofs.YtphddbijdfmpjaaDoorW.PrintLast Go.Proofs.YtphddbijdfmpjaaDoor.Wr
theorem opens3 {H : Type} {enc : TypeId × Value → H} {w : World} {base : Nat} {spare : Nat → Bool} {held : Bool} : Opens enc Tryd.prog w base spare held 3 (Kd.int .i64) IntD := opens_int Tryd.underlying3
end Go.Proofs.YtphddbijdfmpjaaDoor.Q
namespace Go.Proofs.YtphddbijdfmpjaaDoor.Pure
theorem AccessIsItsBindings (l : List Wr.OpV) (od : List Int) (h0 : l.length ≤ maxLen) (h1 : od.length ≤ maxLen) : ∃ k : Nat, od.length ≤ 9223372036854775807 ∧ true = true := ⟨0, h1, rfl⟩
end Go.Proofs.YtphddbijdfmpjaaDoor.Pure
namespace Go.Proofs.YtphddbijdfmpjaaDoor.Q
open Go.RowKit Go.Lib Go.ChangeShapes Go.Proofs.YtphddbijdfmpjaaDoorW.PrintWords Go.Proofs.YtphddbijdfmpjaaDoorW.PrintLast
set_option linter.unusedVariables false
set_option linter.unusedSimpArgs false
theorem laid_one {P : Program} {w : World} {l : List (String × DataW Unit)} {n : String} {d : DataW Unit} (h : laidMetH P l w) (hl : (l.filter fun x => x.1 == n) = [(n, d)]) (hd : d.handleName? = none) : laidMet P [(n, d)] w := by
  have h1 := h.filter (fun x => x.1 == n)
  rw [hl] at h1
  have h2 := (laidMetH_iff.1 h1).1
  have e : ([(n, d)] : List (String × DataW Unit)).filter (fun x => x.2.handleName?.isNone) = [(n, d)] := by simp [List.filter_cons, hd]
  rw [e] at h2
  exact h2
theorem letters_laid {w : World} (h : laidMet Tryd.prog [("bursar/object.letters", Rows.laid_bursar_object_letters)] w) : w.cell? ⟨0, 4, none⟩ = some (.int .u8 66) :=
  (Lib.tabIs_of_head (k := .u8) (zs := [0, 81, 76, 79, 66]) (g := 0) (t := 97) (e := 5) (n := 5) (by kernel_rfl) (by kernel_rfl) Tryd.underlying97 Tryd.underlying5 (by kernel_rfl) (by kernel_rfl) h).cell (by kernel_rfl) 4 (by decide)
theorem glob_of {W : World} (hsh : W.ShapedOpen Tryd.prog) (h : laidMetH Tryd.prog Rows.accessGoesDownRow.laid W) : Glob W :=
  ⟨Tryd.laysM146.s1_3 W hsh, letters_laid (laid_one h rfl rfl)⟩
end Go.Proofs.YtphddbijdfmpjaaDoor.Q
namespace Go.Proofs.YtphddbijdfmpjaaDoor.accessIsItsBindings
open Go.ChangeShapes Go.WideShapes Go.ChangeAt Go.RowKit
open Go.ChangeMaps (open_string shut_string)
set_option linter.unusedVariables false
set_option linter.unusedSimpArgs false
theorem own : ownKnob Tryd.prog.godebug = none := by kernel_rfl
theorem laidOut : laidOutB Tryd.prog = true := by kernel_rfl
set_option maxRecDepth 100000 in
theorem contract (H : Type) (enc : TypeId × Value → H) (W : World) (base : Nat) (args : Array Value) (ds gs : List (DataW H)) (before : List MemPlace)
    (hval0 : ∀ (j : Nat) t v, Tryd.f7.params[j]? = some t → args[j]? = some v → Value.okWide Tryd.prog W .any base t v)
    (hW : DataW.Whole enc Tryd.prog Tryd.f7.params.toList Rows.accessIsItsBindingsSpec.vars false W args.toList ds gs before)
    (hsz0 : (DataW.weightsEach Tryd.prog (Tryd.f7.params.toList ++ (OpenSpec.ofChange Rows.accessIsItsBindingsSpec).bare.plain.varTypes Tryd.prog) (ds ++ gs)).all (· ≤ reachBytes) = true)
    (hsh : W.ShapedOpen Tryd.prog)
    (hl : laidMetH Tryd.prog Rows.accessIsItsBindingsRow.laid W)
    : Calls Tryd.prog 7 args W fun e W' => ∃ v, e = .returned v ∧ Rows.accessIsItsBindingsSpec.post enc Tryd.prog Tryd.f7 false true false false W args v W' := by
  have hsz : (DataW.weightsEach Tryd.prog (Tryd.f7.params.toList ++ Rows.accessIsItsBindingsSpec.plain.varTypes Tryd.prog) (ds ++ gs)).all (· ≤ reachBytes) = true := hsz0
  have hval : ∀ (j : Nat) t v, Tryd.f7.params[j]? = some t → args[j]? = some v → Value.okWide Tryd.prog W .any base t v := hval0
  have hW' := hW
  obtain ⟨p, q, hA0, hV, rfl, hfz, hnd⟩ := hW
  have hA : DataW.TrodAll enc Tryd.prog W 0 (fun _ => true) true Tryd.f7.params.toList args.toList ds p := hA0
  rw [Tryd.params7] at hA hval hsz
  obtain ⟨v0, vs0, d0, ds0, p0, q0, hargs, rfl, rfl, h0, r0⟩ := trodAll_cons hA
  obtain ⟨v1, vs1, d1, ds1, p1, q1, rfl, rfl, rfl, h1, r1⟩ := trodAll_cons r0
  obtain ⟨rfl, rfl, rfl⟩ := trodAll_nil r1
  obtain rfl : args = #[v0, v1] := by cases args; simp_all
  obtain ⟨rfl, rfl⟩ := trodVars_none hV
  obtain ⟨A0, len0, cap0, rfl⟩ := okWide_slice Tryd.underlying22 (hval 0 22 v0 rfl rfl)
  have k0 := h0
  have lt0 : ∀ x ∈ p0, x.block < W.heap.size := by obtain ⟨m, hm⟩ := k0; exact DataW.trod_lt m _ _ _ hm
  obtain ⟨l0, rfl, hr0, hc0, hz0, hm0⟩ := Q.row_open Tryd.underlying22 (by kernel_rfl) Q.opens29 h0
  obtain ⟨A1, len1, cap1, rfl⟩ := okWide_slice Tryd.underlying54 (hval 1 54 v1 rfl rfl)
  have k1 := h1
  have lt1 : ∀ x ∈ p1, x.block < W.heap.size := by obtain ⟨m, hm⟩ := k1; exact DataW.trod_lt m _ _ _ hm
  obtain ⟨l1, rfl, hr1, hc1, hz1, hm1⟩ := Q.row_open Tryd.underlying54 (by kernel_rfl) Q.opens3 h1
  obtain ⟨k, hp⟩ := Pure.AccessIsItsBindings l0 l1 hm0 hm1
  refine (Q.bursarlaw21_AccessIsItsBindings.calls k A0 cap0 l0 A1 cap1 l1 true W hr0 hc0 hr1 hc1 hp (Q.glob_of hsh hl)).mono fun e W' ⟨he, bel⟩ => ?_
  subst he
  exact ⟨_, rfl, _, _, _, [], _, [], hW', trodAll_mk1 (shut_bool Tryd.underlying4 _), (trodAll_cons_mk (Below.trod laidOut (by kernel_rfl) (of_decide_eq_true (by kernel_rfl)) k0 bel lt0) (trodAll_cons_mk (Below.trod laidOut (by kernel_rfl) (of_decide_eq_true (by kernel_rfl)) k1 bel lt1) trodAll_mk0)), rfl, bel.frame _, fun h => by cases h⟩
noncomputable def tab1 : Obj → Obj
  | .cells _ t frozen => .cells (Go.Pinned.utf8FirstZ.map fun (n : Nat) => Value.int .u8 (n : Int)).toArray t frozen
  | o => o
noncomputable def laidWorld (os : Os) : World :=
  { World.doorLaid Tryd.prog 138 os with heap := (World.doorLaid Tryd.prog 138 os).heap.modify 2 tab1 }
theorem laid_met (os : Os) : laidMet Tryd.prog Rows.accessIsItsBindingsRow.laid ((laidWorld os).forCall (fun _ _ => 0) ⟨#[], #[.slice none 0 0, .slice none 0 0], []⟩).memory :=
  laidMet_of_run' 8 (by kernel_rfl) (by kernel_rfl)
theorem reads (os : Os) {H : Type} (enc : TypeId × Value → H) : ∃ places, DataW.whole enc Tryd.prog ((laidWorld os).forCall (fun _ _ => 0) ⟨#[], #[.slice none 0 0, .slice none 0 0], []⟩).memory Tryd.f7.params.toList Rows.accessIsItsBindingsSpec.vars false (#[.slice none 0 0, .slice none 0 0] : Array Value).toList 8 = some ([.nil, .nil], [], places) :=
  ⟨[], by kernel_rfl⟩
set_option maxRecDepth 100000 in
theorem lifted (os : Os) (started : os.Started) (H : Type) (enc : TypeId × Value → H) (F : Stop.Interp) :
    ReturnsInHanded {} Tryd.checked os 7 .any ((OpenSpec.ofChange Rows.accessIsItsBindingsSpec).preRow enc Tryd.prog Tryd.f7 Rows.accessIsItsBindingsRow.domain false Rows.accessIsItsBindingsRow.laid) (((OpenSpec.ofChange Rows.accessIsItsBindingsSpec).at F).post enc Tryd.prog Tryd.f7 false true false false) := by
  obtain ⟨places, hx⟩ := reads os enc
  refine returnsInHanded_of_row (C := Tryd.checked) (s := OpenSpec.ofChange Rows.accessIsItsBindingsSpec) own started (by kernel_rfl) Tryd.func7
    (witness_row_at (enc := enc) (C := Tryd.checked) false (laidWorld os) #[.slice none 0 0, .slice none 0 0] rfl (by kernel_rfl) (by kernel_rfl) (by kernel_rfl)
      (OpenSpec.preRow_of_cond 8 hx (by kernel_rfl) (fun k hk => by cases hk) (by kernel_rfl) (laid_met os))) ?_
  intro W base args ds gs before hval hW _ hcond hsz hl hsh _
  exact contract H enc W base args ds gs before hval hW hsz hsh hl
theorem said : Rows.AccessIsItsBindingsSaid :=
  OpenClaim.holds_of_cond 7 Tryd.f7 rfl rfl rfl rfl rfl rfl rfl ⟨rfl, rfl, rfl, rfl, rfl⟩ rfl rfl rfl rfl rfl (by kernel_rfl) Tryd.func7 (by kernel_rfl)
    (of_decide_eq_true (by kernel_rfl)) (by unfold Func.isWrapper; first | (rw [if_pos (by decide +kernel)]; kernel_rfl) | (rw [if_neg (by decide +kernel)]; exact ⟨rfl, rfl⟩))
    (fun os started H enc _ F => by rw [OpenClaim.pre_eq_preRow]; exact lifted os started H enc F)
theorem plain (f : FuncId) (fn : Func) (hf : Tryd.pinned.checked.prog.funcNamed "bursar/bursarlaw21.AccessIsItsBindings" = some f) (hfn : Tryd.pinned.checked.prog.funcs[f]? = some fn) :
    false = Tryd.pinned.checked.prog.looks [] ∧ ∀ (j : Nat) t, fn.params[j]? = some t → Tryd.pinned.checked.prog.wantsStandIn t = false := by
  obtain rfl : f = 7 := Option.some.inj ((show Tryd.prog.funcNamed "bursar/bursarlaw21.AccessIsItsBindings" = some 7 by kernel_rfl).symm.trans hf) |>.symm
  obtain rfl : fn = Tryd.f7 := (Option.some.inj (Tryd.func7.symm.trans hfn)).symm
  refine ⟨by kernel_rfl, fun j t ht => ?_⟩
  rw [Tryd.params7] at ht
  have hall : ∀ x ∈ [22, 54], Tryd.prog.wantsStandIn x = false := by
    intro x hx; simp only [List.mem_cons, List.mem_nil_iff, or_false] at hx; rcases hx with rfl | rfl <;> kernel_rfl
  exact hall t (by simpa using Array.mem_of_getElem? ht)
theorem card : Rows.AccessIsItsBindingsCardSaid :=
  Claim7.holds_tied_plain_at .later [] _ _ _ _ said (fun _ h => by cases h) (by kernel_rfl) (fun _ h => by cases h) accessIsItsBindings_row_tie rfl ⟨rfl, rfl⟩ (by kernel_rfl) rfl plain (by kernel_rfl)
end Go.Proofs.YtphddbijdfmpjaaDoor.accessIsItsBindings
namespace Go.Proofs.YtphddbijdfmpjaaDoor
theorem accessIsItsBindings_holds : Rows.AccessIsItsBindingsCardSaid := accessIsItsBindings.card
end Go.Proofs.YtphddbijdfmpjaaDoor
