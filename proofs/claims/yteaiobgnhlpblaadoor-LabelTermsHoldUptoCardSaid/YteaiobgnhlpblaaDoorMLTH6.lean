/- What the statement LabelTermsHoldUptoCardSaid rests on, part 6 of 6: walks and plain laws; what of the printer's words it leans on. -/
import Derived.Test.YteaiobgnhlpblaaDoorRows
import Derived.Test.YteaiobgnhlpblaaDoorCards
import Derived.Test.YteaiobgnhlpblaaDoorTie
import Derived.Test.YteaiobgnhlpblaaDoorMLTH3
import Derived.Test.YteaiobgnhlpblaaDoorMLTH4
import Derived.Test.YteaiobgnhlpblaaDoorMLTH5
import Derived.Deep.Slices
import Derived.ChangeArms
import Derived.ProofKit
import Derived.WalkKit
import Derived.OpenShut
import Derived.ShutString
import Derived.ChangeOld
import Derived.Below
import Derived.SizedLaws
import Derived.Deep.DeepHandedRow
namespace Go.Proofs.YteaiobgnhlpblaaDoor.Q
open Go.RowKit Go.Proofs.YteaiobgnhlpblaaDoorW.PrintWords Go.Proofs.YteaiobgnhlpblaaDoorW.PrintLast Go.Proofs.YteaiobgnhlpblaaDoor.Pl
set_option linter.unusedVariables false
set_option linter.unusedSimpArgs false
def thereB (l : List S51) (x : ByteArray) : Bool := (lastN l x l.length).isSome
def valS (l : List S51) (x : ByteArray) : ByteArray := match lastN l x l.length with
  | some j => valN l j
  | none => ⟨#[]⟩
theorem hold_eq (l : List S51) (t : S45) (ht : propB t = true) : holdB l t = if t.f1 = 0 then thereB l t.f0 && memB t.f2 (valS l t.f0) else if t.f1 = 1 then !(thereB l t.f0 && memB t.f2 (valS l t.f0)) else if t.f1 = 2 then thereB l t.f0 else !thereB l t.f0 := by
  unfold holdB thereB valS
  cases lastN l t.f0 l.length with
  | none => rcases prop_how ht with hh | hh | ⟨hh | hh, _⟩ <;> simp [hh]
  | some j => rcases prop_how ht with hh | hh | ⟨hh | hh, _⟩ <;> simp [hh, valN]
theorem tv_loop (l : List S51) (hl : vR l = 0) (x : ByteArray) (d : Nat) : ∀ i : Nat, i + d = l.length → (∀ a, a < i → keyN l a ≠ x) →
    Ev (fun k => bursarlaw04_value.l0 k l x (i : Int)) (valS l x, thereB l x) := by
  have h16 := (vR_step hl).1
  induction d with
  | zero =>
    intro i hi hno
    have hlast := lastN_none l x l.length (fun a ha => hno a (by omega))
    have e : (valS l x, thereB l x) = ((⟨#[]⟩ : ByteArray), false) := by unfold valS thereB; rw [hlast]; rfl
    rw [e]
    exact Ev.step (f := fun _ => some ((⟨#[]⟩ : ByteArray), false)) (fun k => by simp only [bursarlaw04_value.l0]; rw [if_neg (by omega)]) (Ev.now _)
  | succ d ih =>
    intro i hi hno
    have hlt : i < l.length := by omega
    by_cases hk : keyN l i = x
    · have hlast := lastN_some l x i hk l.length hlt (fun b h1 h2 e => keys_apart hl i b h1 h2 (hk.trans e.symm))
      have e : (valS l x, thereB l x) = ((rd_T51 l (i : Int)).f1, true) := by unfold valS thereB; rw [hlast]; rfl
      rw [e]
      refine Ev.step (f := fun _ => some ((rd_T51 l (i : Int)).f1, true)) (fun k => ?_) (Ev.now _)
      simp only [bursarlaw04_value.l0]
      rw [if_pos (by omega), if_pos (by omega), if_pos (show (rd_T51 l (i : Int)).f0.toList = x.toList from (ba_iff _ _).2 hk)]
    · have := ih (i + 1) (by omega) (fun a ha => by
        by_cases e : a = i
        · rw [e]; exact hk
        · exact hno a (by omega))
      refine Ev.step (fun k => ?_) this
      simp only [bursarlaw04_value.l0]
      rw [if_pos (by omega), if_pos (by omega), if_neg (show ¬ (rd_T51 l (i : Int)).f0.toList = x.toList from fun e => hk ((ba_iff _ _).1 e)), w64 i (by omega)]
def flipT (t : S45) (h : Int) : S45 := ⟨t.f0, h, t.f2⟩
theorem prop_flip {t : S45} (h : propB t = true) (a : Int) (hs : (t.f1 = 0 ∨ t.f1 = 1) ∧ (a = 0 ∨ a = 1) ∨ (t.f1 = 2 ∨ t.f1 = 3) ∧ (a = 2 ∨ a = 3)) : propB (flipT t a) = true := by
  obtain ⟨x, y, z⟩ := t
  unfold propB properB flipT at *
  dsimp only at *
  rcases hs with ⟨h1, h2⟩ | ⟨h1, h2⟩
  · rw [if_neg (by omega), if_pos h1] at h
    rw [if_neg (by omega), if_pos h2]
    exact h
  · rw [if_pos h1] at h
    rw [if_pos h2]
    exact h
theorem mR_one (l : List S51) (hl : vR l = 0) (t : S45) (ht : propB t = true) : mR [t] l = (holdB l t, 0) := by
  unfold mR
  rw [if_pos (show allB [t] = true by unfold allB; simp [ht]), if_pos hl]
  simp
theorem mR_bad (ts : List S45) (l : List S51) (h : ¬ (allB ts = true ∧ vR l = 0)) : mR ts l = (false, 43) ∨ mR ts l = (false, 42) := by
  unfold mR
  by_cases h1 : allB ts = true
  · rw [if_pos h1, if_neg (fun x => h ⟨h1, x⟩)]
    right
    unfold vR
    split
    · rename_i hc; exact absurd (by unfold vR; rw [if_pos hc]) (fun x => h ⟨h1, x⟩)
    · rfl
  · rw [if_neg h1]; exact .inl rfl
theorem take_one (l : List S45) (i : Nat) (h : i < l.length) : (l.take (i + 1)).drop i = [rd_T45 l (i : Int)] := by
  rw [rd45 l i h, List.drop_take]
  simp [List.take_one, List.head?_drop, List.getElem?_eq_getElem h]
theorem C_one (w : World) (x : ByteArray) (h : Int) (vs : List ByteArray) (A2 : Option Addr) (c2 : Nat) (hr : Kd.C Kd.string w A2 vs.length vs) (hc : vs.length ≤ c2) :
    Kd.C k45 (w.alloc (.cells #[.string x, .int .i64 h, .slice A2 vs.length c2] 45)) (some ⟨w.heap.size, 0, none⟩) [(⟨x, h, vs⟩ : S45)].length [(⟨x, h, vs⟩ : S45)] := by
  refine ⟨rfl, by simp, fun _ => ⟨_, rfl, fun j p hj => ?_⟩⟩
  cases j with
  | succ j => simp at hj
  | zero =>
    obtain rfl : (⟨x, h, vs⟩ : S45) = p := by simpa using hj
    refine ⟨[.string x, .int .i64 h, .slice A2 vs.length c2], rfl, k45_mk _ _ hc (Kd.C_alloc hr _), fun i u hi => ?_⟩
    rw [add_at, blk_cell (blk_new w (.cells #[.string x, .int .i64 h, .slice A2 vs.length c2] 45))]
    simpa using hi
theorem fixed_at (w : World) (hG : Glob w) : Calls Tryd.prog 12 #[] w fun e w' => e = .returned (.bool true) ∧ Below w.heap.size w w' := by
  obtain ⟨k, hk⟩ := fixed_ev.rounds
  exact bursarlaw04_fixed.calls k true w hk hG
theorem own_at (A : Option Addr) (c : Nat) (l : List S45) (w : World) (hr : Kd.C k45 w A l.length l) (hc : l.length ≤ c) (hl : l.length ≤ 2000000) (hv : ∀ t ∈ l, t.f2.length ≤ 2000000) :
    Calls Tryd.prog 17 #[.slice A l.length c] w fun e w' => ∃ A' c', e = .returned (.slice A' l.length c') ∧ Kd.C k45 w' A' l.length l ∧ l.length ≤ c' ∧ Below w.heap.size w w' := by
  obtain ⟨k, hk⟩ := (own_ev l hl hv).rounds
  refine (bursarlaw04_own.calls k A c l l w hr hc hk).mono ?_
  rintro e w' ⟨v, rfl, ho, hb⟩
  obtain ⟨A', c', rfl⟩ := Kd.S_slice ho
  have := Kd.S_reads' ho
  exact ⟨A', c', rfl, this.2.2, this.2.1, hb⟩
theorem match_at (A0 : Option Addr) (c0 : Nat) (l0 : List S45) (A1 : Option Addr) (c1 : Nat) (l1 : List S51) (r1 : Bool) (r2 : Int) (hm : mR l0 l1 = (r1, r2)) (w : World)
    (hr0 : Kd.C k45 w A0 l0.length l0) (hc0 : l0.length ≤ c0) (hr1 : Kd.C k51 w A1 l1.length l1) (hc1 : l1.length ≤ c1) :
    Calls Tryd.prog 37 #[.slice A0 l0.length c0, .slice A1 l1.length c1] w fun e w' => e = .returned (.tuple #[.bool r1, .int .i64 r2]) ∧ Below w.heap.size w w' := by
  obtain ⟨k, hk⟩ := (match_ev l0 l1).rounds
  rw [hm] at hk
  exact label_Match.calls k A0 c0 l0 A1 c1 l1 r1 r2 w hr0 hc0 hr1 hc1 hk
theorem value_at (A : Option Addr) (c : Nat) (l : List S51) (x : ByteArray) (hl : vR l = 0) (b : Bool) (hb : thereB l x = b) (w : World) (hr : Kd.C k51 w A l.length l) (hc : l.length ≤ c) :
    Calls Tryd.prog 39 #[.slice A l.length c, .string x] w fun e w' => e = .returned (.tuple #[.string (valS l x), .bool b]) ∧ Below w.heap.size w w' := by
  obtain ⟨k, hk⟩ := (tv_loop l hl x l.length 0 (by omega) (fun a ha => by omega)).rounds
  rw [hb] at hk
  refine (bursarlaw04_value.calls k A c l x _ _ w hr hc hk).mono ?_
  rintro e w' ⟨rfl, hd⟩
  exact ⟨rfl, hd.below⟩
theorem below_of_grown {w w' : World} (h : w.grownBy w' none) : Below w.heap.size w w' := ⟨h.os, h.tape, h.output, h.size, fun k hk => h.block k hk (by simp)⟩
theorem mem_snoc (vs : List ByteArray) (x : ByteArray) (m : Nat) (h : m < vs.length) : memB (vs.take (m + 1)) x = (memB (vs.take m) x || ((rdOf ByteArray.empty vs (m : Int)).toList == x.toList)) := by
  rw [List.take_succ_eq_append_getElem h, rd_at vs m h]
  unfold memB
  rw [List.any_append]
  congr 1
  simp only [List.any_cons, List.any_nil, Bool.or_false]
  by_cases e : x = vs[m]
  · rw [e, decide_eq_true rfl, beq_self_eq_true]
  · rw [decide_eq_false e, eq_comm, beq_eq_false_iff_ne]
    exact fun h => e ((ba_iff _ _).1 h).symm
def bursarlaw04_LabelTermsHold.f (k : Nat) (l0 : List S45) (l1 : List S51) : Option Bool := if l0.length ≤ 1048576 ∧ (∀ t ∈ l0, t.f2.length ≤ 1048576) ∧ l1.length ≤ 1048576 then some true else none
set_option maxHeartbeats 64000000 in
set_option maxRecDepth 100000 in
theorem bursarlaw04_LabelTermsHold.calls (k : Nat) (A0 : Option Addr) (c0 : Nat) (l0 : List S45) (A1 : Option Addr) (c1 : Nat) (l1 : List S51) (r : Bool) (w : World)
    (hr0 : Kd.C k45 w A0 l0.length l0) (hc0 : l0.length ≤ c0) (hr1 : Kd.C k51 w A1 l1.length l1) (hc1 : l1.length ≤ c1) (h : bursarlaw04_LabelTermsHold.f k l0 l1 = some r) (hG : Glob w) :
    Calls Tryd.prog 11 #[.slice A0 l0.length c0, .slice A1 l1.length c1] w fun e w' => e = .returned (.bool r) ∧ Below w.heap.size w w' := by
  unfold bursarlaw04_LabelTermsHold.f at h
  split at h
  rotate_left
  · cases h
  rename_i hsz
  obtain rfl : true = r := Option.some.inj h
  clear h
  have HSZ := Lib.hid hsz
  have HL := Lib.hid (show l0.length ≤ 2000000 by omega)
  have HV := Lib.hid (show ∀ t ∈ l0, t.f2.length ≤ 2000000 from fun t ht => by have := hsz.2.1 t ht; omega)
  have HL1 := Lib.hid (show l1.length ≤ 1048576 by omega)
  clear hsz
  have HR0 := Aside0.mk hr0
  have HC0 := Aside0.mk hc0
  have HR1 := Aside0.mk hr1
  have HC1 := Aside0.mk hc1
  clear hr0 hc0 hr1 hc1
  have hu45 := Tryd.underlying45
  have hu51 := Tryd.underlying51
  have hxr0 : bits .xor .i64 0 1 = 1 := by kernel_rfl
  have hxr1 : bits .xor .i64 1 1 = 0 := by kernel_rfl
  have hxr2 : bits .xor .i64 2 1 = 3 := by kernel_rfl
  have hxr3 : bits .xor .i64 3 1 = 2 := by kernel_rfl
  by_cases hgood : allB l0 = true ∧ vR l1 = 0
  rotate_left
  · rcases mR_bad l0 l1 hgood with hm | hm
    · have HM := Lib.hid hm
      clear hm hgood
      go_enter Tryd.func11, Tryd.ntmps11
      go_wp2_with (first | (go_at_call 12; refine (fixed_at _ hG).mono ?_; rintro e w4 ⟨rfl, hb4⟩; have HB := Aside0.mk hb4; clear hb4) | (go_at_call 17; refine (own_at _ _ l0 _ (Kd.C_below HR0.out HB.out) HC0.out HL.out HV.out).mono ?_; rintro e w5 ⟨A5, c5, rfl, ho5, hc5, hb5⟩; have HB5 := Aside0.mk (below_step HB.out hb5); have HO5 := Aside0.mk ho5; have HC5 := Aside0.mk hc5; clear ho5 hc5 HB hb5) | ((with_reducible refine gate_builtin (b := .append) (xs := #[.const (.slice none 0 0), .tmp 26]) rfl ?_); (try (refine gate_guard (by rfl) ?_; dsimp only)); at_builtin; refine Kd.R_append_rows k51 (w0 := w) w.heap.size rfl (.const (.slice none 0 0)) (.tmp 26) 46 51 (.agg #[(.string ⟨#[]⟩), (.string ⟨#[]⟩)]) 32 rfl Tryd.underlying46 info51 rfl (by decide) (by omega) (.slice none 0 0) ([] : List (S51)) l1 _ _ _ (fun _ => True) (fun _ => False) rfl rfl ?aO ?aR (fun _ _ h => h) (fun _ h => h.elim) ?aF ?aB ?aS ?aL ?_; (case aR => exact Kd.C_below HR1.out HB5.out); (case aB => exact HB5.out); (case aF => exact (fun _ _ => trivial)); (case aO => exact (Kd.R_nil _ _ _ _ (fun _ => True))); (case aS => exact HB5.out.size); (case aL => have := HL1.out; simp; omega); intro v6 w6 ho hb hg hat; rw [List.nil_append] at ho; obtain ⟨A6, c6, e6⟩ := Kd.R_slice ho; subst e6; have HQ6 := Aside0.mk ((Kd.R_reads' ho).2.2); have HC6 := Aside0.mk ((Kd.R_reads' ho).2.1); have hg6 := below_of_grown hg; have HO6 := Aside0.mk (Kd.C_below HO5.out hg6); have HB6 := Aside0.mk hb; clear ho hb hg hat hg6 HO5 HB5) | (go_at_call 37; refine (match_at _ _ l0 _ _ l1 _ _ HM.out _ HO6.out HC5.out HQ6.out HC6.out).mono ?_; rintro e w7 ⟨rfl, hb7⟩; have HB := Aside0.mk (below_step HB6.out hb7); clear HB6 HO6 HC5 HQ6 HC6 hb7))
      go_ret
      exact ⟨rfl, HB.out⟩
    · have HM := Lib.hid hm
      clear hm hgood
      go_enter Tryd.func11, Tryd.ntmps11
      go_wp2_with (first | (go_at_call 12; refine (fixed_at _ hG).mono ?_; rintro e w4 ⟨rfl, hb4⟩; have HB := Aside0.mk hb4; clear hb4) | (go_at_call 17; refine (own_at _ _ l0 _ (Kd.C_below HR0.out HB.out) HC0.out HL.out HV.out).mono ?_; rintro e w5 ⟨A5, c5, rfl, ho5, hc5, hb5⟩; have HB5 := Aside0.mk (below_step HB.out hb5); have HO5 := Aside0.mk ho5; have HC5 := Aside0.mk hc5; clear ho5 hc5 HB hb5) | ((with_reducible refine gate_builtin (b := .append) (xs := #[.const (.slice none 0 0), .tmp 26]) rfl ?_); (try (refine gate_guard (by rfl) ?_; dsimp only)); at_builtin; refine Kd.R_append_rows k51 (w0 := w) w.heap.size rfl (.const (.slice none 0 0)) (.tmp 26) 46 51 (.agg #[(.string ⟨#[]⟩), (.string ⟨#[]⟩)]) 32 rfl Tryd.underlying46 info51 rfl (by decide) (by omega) (.slice none 0 0) ([] : List (S51)) l1 _ _ _ (fun _ => True) (fun _ => False) rfl rfl ?aO ?aR (fun _ _ h => h) (fun _ h => h.elim) ?aF ?aB ?aS ?aL ?_; (case aR => exact Kd.C_below HR1.out HB5.out); (case aB => exact HB5.out); (case aF => exact (fun _ _ => trivial)); (case aO => exact (Kd.R_nil _ _ _ _ (fun _ => True))); (case aS => exact HB5.out.size); (case aL => have := HL1.out; simp; omega); intro v6 w6 ho hb hg hat; rw [List.nil_append] at ho; obtain ⟨A6, c6, e6⟩ := Kd.R_slice ho; subst e6; have HQ6 := Aside0.mk ((Kd.R_reads' ho).2.2); have HC6 := Aside0.mk ((Kd.R_reads' ho).2.1); have hg6 := below_of_grown hg; have HO6 := Aside0.mk (Kd.C_below HO5.out hg6); have HB6 := Aside0.mk hb; clear ho hb hg hat hg6 HO5 HB5) | (go_at_call 37; refine (match_at _ _ l0 _ _ l1 _ _ HM.out _ HO6.out HC5.out HQ6.out HC6.out).mono ?_; rintro e w7 ⟨rfl, hb7⟩; have HB := Aside0.mk (below_step HB6.out hb7); clear HB6 HO6 HC5 HQ6 HC6 hb7))
      go_ret
      exact ⟨rfl, HB.out⟩
  have HVR := Lib.hid hgood.2
  have hp := (show l0.length ≤ 8 ∧ l0.all propB = true by have := hgood.1; unfold allB at this; rw [Bool.and_eq_true, decide_eq_true_iff] at this; exact this)
  have HP := Lib.hid hp.2
  have h8l := hp.1
  have HM := Lib.hid (show mR l0 l1 = (l0.all (holdB l1), 0) by unfold mR; rw [if_pos hgood.1, if_pos hgood.2])
  clear hp hgood
  go_enter Tryd.func11, Tryd.ntmps11
  go_wp2_with (first | (go_at_call 12; refine (fixed_at _ hG).mono ?_; rintro e w4 ⟨rfl, hb4⟩; have HB := Aside0.mk hb4; clear hb4) | (go_at_call 17; refine (own_at _ _ l0 _ (Kd.C_below HR0.out HB.out) HC0.out HL.out HV.out).mono ?_; rintro e w5 ⟨A5, c5, rfl, ho5, hc5, hb5⟩; have HB5 := Aside0.mk (below_step HB.out hb5); have HO5 := Aside0.mk ho5; have HC5 := Aside0.mk hc5; clear ho5 hc5 HB hb5) | ((with_reducible refine gate_builtin (b := .append) (xs := #[.const (.slice none 0 0), .tmp 26]) rfl ?_); (try (refine gate_guard (by rfl) ?_; dsimp only)); at_builtin; refine Kd.R_append_rows k51 (w0 := w) w.heap.size rfl (.const (.slice none 0 0)) (.tmp 26) 46 51 (.agg #[(.string ⟨#[]⟩), (.string ⟨#[]⟩)]) 32 rfl Tryd.underlying46 info51 rfl (by decide) (by omega) (.slice none 0 0) ([] : List (S51)) l1 _ _ _ (fun _ => True) (fun _ => False) rfl rfl ?aO ?aR (fun _ _ h => h) (fun _ h => h.elim) ?aF ?aB ?aS ?aL ?_; (case aR => exact Kd.C_below HR1.out HB5.out); (case aB => exact HB5.out); (case aF => exact (fun _ _ => trivial)); (case aO => exact (Kd.R_nil _ _ _ _ (fun _ => True))); (case aS => exact HB5.out.size); (case aL => have := HL1.out; simp; omega); intro v6 w6 ho hb hg hat; rw [List.nil_append] at ho; obtain ⟨A6, c6, e6⟩ := Kd.R_slice ho; subst e6; have HQ6 := Aside0.mk ((Kd.R_reads' ho).2.2); have HC6 := Aside0.mk ((Kd.R_reads' ho).2.1); have hg6 := below_of_grown hg; have HO6 := Aside0.mk (Kd.C_below HO5.out hg6); have HB6 := Aside0.mk hb; clear ho hb hg hat hg6 HO5 HB5) | (go_at_call 37; refine (match_at _ _ l0 _ _ l1 _ _ HM.out _ HO6.out HC5.out HQ6.out HC6.out).mono ?_; rintro e w7 ⟨rfl, hb7⟩; have HB := Aside0.mk (below_step HB6.out hb7); clear HB6 HO6 HC5 HQ6 HC6 hb7))
  go_loopg [8, 9, 10, 11, 12, 13, 14, 15, 16, 17, 18, 19] l0.length (fun g v8 v9 v10 v11 v12 v13 v14 v15 v16 v17 v18 v19 wr => ∃ (i : Nat) (b : Bool), v8 = .bool b ∧ v9 = .int .i64 i ∧ i ≤ l0.length ∧ l0.length ≤ i + g ∧ Aside0 ((l0.take i).all (holdB l1) = b) ∧ Aside0 (Below w.heap.size w wr))
  case atStart => exact ⟨0, true, rfl, rfl, by omega, by omega, ⟨rfl⟩, HB⟩
  case round =>
    clear HB
    obtain ⟨i, b, rfl, rfl, hin, hig, hall, hbw⟩ := hrel
    by_cases hlt : i < l0.length
    · cases gk with
      | zero => omega
      | succ g =>
        obtain ⟨ad, A2, c2, eA, hx0, hx1, hx2, hl2, hi2⟩ := at_T45 HR0.out (i : Int) (by omega) (by omega)
        cases eA
        rw [Int.toNat_natCast] at hx0 hx1 hx2
        replace hx0 := (hbw.out.cell (World.block_lt_of_cell? w _ hx0)).trans hx0
        replace hx1 := (hbw.out.cell (World.block_lt_of_cell? w _ hx1)).trans hx1
        replace hx2 := (hbw.out.cell (World.block_lt_of_cell? w _ hx2)).trans hx2
        have hp := prop_at HP.out i hlt
        have HPP := Lib.hid hp
        have HR2 := Aside0.mk hi2
        have HC2 := Aside0.mk hl2
        have hicap : i + 1 ≤ c0 := by have := HC0.out; omega
        have HONE := Lib.hid (take_one l0 i hlt)
        have HMID := Aside0.mk (Kd.C_mid (c := c0) (lo := i) (hi := i + 1) HR0.out (by omega) (by omega) HC0.out)
        have HNX := Lib.hid (show (l0.take (i + 1)).all (holdB l1) = (b && holdB l1 (rd_T45 l0 (i : Int))) by
          rw [← hall.out, List.take_succ_eq_append_getElem hlt, List.all_append, rd45 l0 i hlt]; simp)
        clear hi2 hl2 hp hall
        generalize rd_T45 l0 (i : Int) = t at *
        have hMID := HMID.out
        rw [HONE.out, if_neg (by omega)] at hMID
        have HMID2 := Aside0.mk (show Kd.C k45 w (some (ad.add (i * 3))) [t].length [t] from hMID)
        clear hMID HMID HONE
        have H8 := Lib.hid (prop_f2 HPP.out)
        cases hth : thereB l1 t.f0 with
        | true =>
          have HTH := Lib.hid hth
          go_wp2_with (first | (go_at_call 39; refine (value_at A1 c1 l1 t.f0 HVR.out true HTH.out _ (Kd.C_below HR1.out (hbw.out.alloc hbw.out.size _)) HC1.out).mono ?_; rintro e w4 ⟨rfl, hb4⟩; have BK := Aside0.mk (blk_below (blk_new wr (.cells #[.string t.f0, .int .i64 t.f1, .slice A2 t.f2.length c2] 45)) hb4); have HB4 := Aside0.mk (below_step (hbw.out.alloc hbw.out.size _) hb4); clear hb4))
          obtain ⟨gb, hgb⟩ : ∃ gb, gb = wr.heap.size := ⟨_, rfl⟩
          have HGB := Lib.hid (show w.heap.size ≤ gb by rw [hgb]; exact hbw.out.size)
          rw [← hgb] at BK
          rw [← hgb]
          clear hgb hx0 hx1 hx2
          go_loopg [13, 14] t.f2.length (fun gi v13 v14 wx => ∃ m : Nat, v14 = .int .i64 m ∧ v13 = .bool (memB (t.f2.take m) (valS l1 t.f0)) ∧ m ≤ t.f2.length ∧ t.f2.length ≤ m + gi ∧ Aside0 (wx.heap[gb]? = some (.cells #[.string t.f0, .int .i64 t.f1, .slice A2 t.f2.length c2] 45)) ∧ Aside0 (Below w.heap.size w wx))
          case atStart => exact ⟨0, rfl, rfl, by omega, by omega, BK, HB4⟩
          case round =>
            clear BK HB4
            obtain ⟨m, rfl, rfl, hmn, hmg, BK, hbx⟩ := hrel
            have hcz2 := (blk_cell BK.out 2).trans rfl
            by_cases hml : m < t.f2.length
            · cases gk with
              | zero => omega
              | succ gi =>
                obtain ⟨ad2, eA2, hy⟩ := Kd.at_string HR2.out (m : Int) (by omega) (by omega)
                cases eA2
                rw [Int.toNat_natCast] at hy
                replace hy := (hbx.out.cell (World.block_lt_of_cell? w _ hy)).trans hy
                have hm8 := H8.out
                have HSN := Lib.hid (mem_snoc t.f2 (valS l1 t.f0) m hml)
                cases hmem : memB (t.f2.take m) (valS l1 t.f0) with
                | true =>
                  have HH := Lib.hid (show memB (t.f2.take (m + 1)) (valS l1 t.f0) = true by rw [HSN.out, hmem]; rfl)
                  clear hmem
                  go_wp2
                  go_roundg gi
                  case measure => omega
                  case rel => exact ⟨m + 1, by go_num, by rw [HH.out], by omega, by omega, BK, hbx⟩
                | false =>
                  cases heq : ((rdOf ByteArray.empty t.f2 (m : Int)).toList == (valS l1 t.f0).toList) with
                  | true =>
                    have HH := Lib.hid (show memB (t.f2.take (m + 1)) (valS l1 t.f0) = true by rw [HSN.out, hmem, heq]; rfl)
                    clear hmem
                    go_wp2
                    go_roundg gi
                    case measure => omega
                    case rel => exact ⟨m + 1, by go_num, by rw [HH.out], by omega, by omega, BK, hbx⟩
                  | false =>
                    have HH := Lib.hid (show memB (t.f2.take (m + 1)) (valS l1 t.f0) = false by rw [HSN.out, hmem, heq]; rfl)
                    clear hmem
                    go_wp2
                    go_roundg gi
                    case measure => omega
                    case rel => exact ⟨m + 1, by go_num, by rw [HH.out], by omega, by omega, BK, hbx⟩
            · obtain rfl : m = t.f2.length := by omega
              clear hml hmn hmg
              rw [List.take_length]
              cases hin2 : memB t.f2 (valS l1 t.f0) with
              | true =>
                rcases prop_how HPP.out with hh | hh | ⟨hh | hh, _⟩
                · have HX := Lib.hid (show holdB l1 t = true by rw [hold_eq l1 t HPP.out, hth, hin2]; simp [hh])
                  have HPF := Lib.hid (prop_flip HPP.out 3 (by omega))
                  have HY := Lib.hid (show holdB l1 (flipT t 3) = false by rw [hold_eq l1 _ HPF.out]; show (if (3 : Int) = 0 then thereB l1 t.f0 && memB t.f2 (valS l1 t.f0) else if (3 : Int) = 1 then !(thereB l1 t.f0 && memB t.f2 (valS l1 t.f0)) else if (3 : Int) = 2 then thereB l1 t.f0 else !thereB l1 t.f0) = false; rw [hth, hin2]; rfl)
                  have HMX := Lib.hid (show mR [t] l1 = (true, 0) by rw [mR_one l1 HVR.out t HPP.out, HX.out])
                  have HMY := Lib.hid (show mR [flipT t 3] l1 = (false, 0) by rw [mR_one l1 HVR.out _ HPF.out, HY.out])
                  have HBK := BK
                  rw [hh] at HBK
                  have hd0 := (blk_cell HBK.out 0).trans rfl
                  have hd1 := (blk_cell HBK.out 1).trans rfl
                  have HH := HNX.out
                  rw [HX.out] at HH
                  have HHH := Lib.hid HH
                  clear HH hh BK hin2
                  cases b with
                  | true =>
                    have HB := hbx
                    go_upto_region 27 with (first | (go_at_call 17; refine (own_at (some (ad.add (i * 3))) _ [t] _ (Kd.C_below HMID2.out HB.out) (by simp; omega) (by simp) (by intro x hx; simp at hx; subst hx; have := H8.out; omega)).mono ?_; rintro e w5 ⟨A5, c5, rfl, ho5, hc5, hb5⟩; have HB5 := Aside0.mk (below_step HB.out hb5); have HO5 := Aside0.mk ho5; have HC5 := Aside0.mk hc5; have BK5 := Aside0.mk (blk_below HBK.out hb5); clear ho5 hc5 HB HBK hb5) | ((with_reducible refine gate_builtin (b := .append) (xs := #[.const (.slice none 0 0), .tmp 101]) rfl ?_); (try (refine gate_guard (by rfl) ?_; dsimp only)); at_builtin; refine Kd.R_append_rows k51 (w0 := w) w.heap.size rfl (.const (.slice none 0 0)) (.tmp 101) 46 51 (.agg #[(.string ⟨#[]⟩), (.string ⟨#[]⟩)]) 32 rfl Tryd.underlying46 info51 rfl (by decide) (by omega) (.slice none 0 0) ([] : List (S51)) l1 _ _ _ (fun _ => True) (fun _ => False) rfl rfl ?aO ?aR (fun _ _ h => h) (fun _ h => h.elim) ?aF ?aB ?aS ?aL ?_; (case aR => exact Kd.C_below HR1.out HB5.out); (case aB => exact HB5.out); (case aF => exact (fun _ _ => trivial)); (case aO => exact (Kd.R_nil _ _ _ _ (fun _ => True))); (case aS => exact HB5.out.size); (case aL => have := HL1.out; simp; omega); intro v6 w6 ho hb hg hat; rw [List.nil_append] at ho; obtain ⟨A6, c6, e6⟩ := Kd.R_slice ho; subst e6; have HQ6 := Aside0.mk ((Kd.R_reads' ho).2.2); have HC6 := Aside0.mk ((Kd.R_reads' ho).2.1); have hg6 := below_of_grown hg; have HO6 := Aside0.mk (Kd.C_below HO5.out hg6); have HB6 := Aside0.mk hb; have BK6 := Aside0.mk (blk_below BK5.out hg6); clear BK5; clear ho hb hg hat hg6 HO5 HB5) | (go_at_call 37; refine (match_at _ _ [t] _ _ l1 _ _ HMX.out _ HO6.out HC5.out HQ6.out HC6.out).mono ?_; rintro e w7 ⟨rfl, hb7⟩; have HB := Aside0.mk (below_step HB6.out hb7); have BK7 := Aside0.mk (blk_below BK6.out hb7); clear BK6; clear HB6 HO6 HC5 HQ6 HC6 hb7))
                    have hcz0 := (blk_cell BK7.out 0).trans rfl
                    have hcz1 := (blk_cell BK7.out 1).trans rfl
                    have hcz2 := (blk_cell BK7.out 2).trans rfl
                    have hfz1 := blk_frozen BK7.out 1
                    go_upto_region 28 with fail
                    have HBS := Aside0.mk (HB.out.setCell (p := ⟨gb, 1, none⟩) HGB.out (.int .i64 3))
                    have BK8 := Aside0.mk (blk_put (cs' := #[.string t.f0, .int .i64 3, .slice A2 t.f2.length c2]) BK7.out 1 (.int .i64 3) rfl)
                    obtain ⟨w8, hw8⟩ : ∃ w8, w8 = w7.setCell ⟨gb, 1, none⟩ (.int .i64 3) := ⟨_, rfl⟩
                    rw [← hw8] at HBS BK8
                    rw [← hw8]
                    clear hw8 hcz0 hcz1 hcz2 hfz1 BK7 HB hd0 hd1
                    have hcz0 := (blk_cell BK8.out 0).trans rfl
                    have hcz1 := (blk_cell BK8.out 1).trans rfl
                    have hcz2 := (blk_cell BK8.out 2).trans rfl
                    go_wp2_with (first | (go_at_call 17; refine (own_at (some ⟨w8.heap.size, 0, none⟩) 1 [(⟨t.f0, 3, t.f2⟩ : S45)] (w8.alloc (.cells #[.string t.f0, .int .i64 3, .slice A2 t.f2.length c2] 45)) (C_one w8 t.f0 3 t.f2 A2 c2 (Kd.C_below HR2.out HBS.out) HC2.out) (by simp) (by simp) (by intro x hx; simp at hx; subst hx; exact Nat.le_trans H8.out (by decide))).mono ?_; rintro e w5 ⟨A5, c5, rfl, ho5, hc5, hb5⟩; have HB5 := Aside0.mk (below_step (HBS.out.alloc HBS.out.size _) hb5); have HO5 := Aside0.mk ho5; have HC5 := Aside0.mk hc5; clear ho5 hc5 hb5) | ((with_reducible refine gate_builtin (b := .append) (xs := #[.const (.slice none 0 0), .tmp 114]) rfl ?_); (try (refine gate_guard (by rfl) ?_; dsimp only)); at_builtin; refine Kd.R_append_rows k51 (w0 := w) w.heap.size rfl (.const (.slice none 0 0)) (.tmp 114) 46 51 (.agg #[(.string ⟨#[]⟩), (.string ⟨#[]⟩)]) 32 rfl Tryd.underlying46 info51 rfl (by decide) (by omega) (.slice none 0 0) ([] : List (S51)) l1 _ _ _ (fun _ => True) (fun _ => False) rfl rfl ?aO ?aR (fun _ _ h => h) (fun _ h => h.elim) ?aF ?aB ?aS ?aL ?_; (case aR => exact Kd.C_below HR1.out HB5.out); (case aB => exact HB5.out); (case aF => exact (fun _ _ => trivial)); (case aO => exact (Kd.R_nil _ _ _ _ (fun _ => True))); (case aS => exact HB5.out.size); (case aL => have := HL1.out; simp; omega); intro v6 w6 ho hb hg hat; rw [List.nil_append] at ho; obtain ⟨A6, c6, e6⟩ := Kd.R_slice ho; subst e6; have HQ6 := Aside0.mk ((Kd.R_reads' ho).2.2); have HC6 := Aside0.mk ((Kd.R_reads' ho).2.1); have hg6 := below_of_grown hg; have HO6 := Aside0.mk (Kd.C_below HO5.out hg6); have HB6 := Aside0.mk hb; clear ho hb hg hat hg6 HO5 HB5) | (go_at_call 37; refine (match_at _ _ [(⟨t.f0, 3, t.f2⟩ : S45)] _ _ l1 _ _ HMY.out _ HO6.out HC5.out HQ6.out HC6.out).mono ?_; rintro e w7 ⟨rfl, hb7⟩; have HBE := Aside0.mk (below_step HB6.out hb7); clear HB6 HO6 HC5 HQ6 HC6 hb7))
                    go_roundg g
                    case measure => omega
                    case rel => exact ⟨i + 1, _, rfl, by go_num, by omega, by omega, ⟨HHH.out⟩, HBE⟩
                  | false =>
                    have HB := hbx
                    go_upto_region 27 with (first | (go_at_call 17; refine (own_at (some (ad.add (i * 3))) _ [t] _ (Kd.C_below HMID2.out HB.out) (by simp; omega) (by simp) (by intro x hx; simp at hx; subst hx; have := H8.out; omega)).mono ?_; rintro e w5 ⟨A5, c5, rfl, ho5, hc5, hb5⟩; have HB5 := Aside0.mk (below_step HB.out hb5); have HO5 := Aside0.mk ho5; have HC5 := Aside0.mk hc5; have BK5 := Aside0.mk (blk_below HBK.out hb5); clear ho5 hc5 HB HBK hb5) | ((with_reducible refine gate_builtin (b := .append) (xs := #[.const (.slice none 0 0), .tmp 101]) rfl ?_); (try (refine gate_guard (by rfl) ?_; dsimp only)); at_builtin; refine Kd.R_append_rows k51 (w0 := w) w.heap.size rfl (.const (.slice none 0 0)) (.tmp 101) 46 51 (.agg #[(.string ⟨#[]⟩), (.string ⟨#[]⟩)]) 32 rfl Tryd.underlying46 info51 rfl (by decide) (by omega) (.slice none 0 0) ([] : List (S51)) l1 _ _ _ (fun _ => True) (fun _ => False) rfl rfl ?aO ?aR (fun _ _ h => h) (fun _ h => h.elim) ?aF ?aB ?aS ?aL ?_; (case aR => exact Kd.C_below HR1.out HB5.out); (case aB => exact HB5.out); (case aF => exact (fun _ _ => trivial)); (case aO => exact (Kd.R_nil _ _ _ _ (fun _ => True))); (case aS => exact HB5.out.size); (case aL => have := HL1.out; simp; omega); intro v6 w6 ho hb hg hat; rw [List.nil_append] at ho; obtain ⟨A6, c6, e6⟩ := Kd.R_slice ho; subst e6; have HQ6 := Aside0.mk ((Kd.R_reads' ho).2.2); have HC6 := Aside0.mk ((Kd.R_reads' ho).2.1); have hg6 := below_of_grown hg; have HO6 := Aside0.mk (Kd.C_below HO5.out hg6); have HB6 := Aside0.mk hb; have BK6 := Aside0.mk (blk_below BK5.out hg6); clear BK5; clear ho hb hg hat hg6 HO5 HB5) | (go_at_call 37; refine (match_at _ _ [t] _ _ l1 _ _ HMX.out _ HO6.out HC5.out HQ6.out HC6.out).mono ?_; rintro e w7 ⟨rfl, hb7⟩; have HB := Aside0.mk (below_step HB6.out hb7); have BK7 := Aside0.mk (blk_below BK6.out hb7); clear BK6; clear HB6 HO6 HC5 HQ6 HC6 hb7))
                    have hcz0 := (blk_cell BK7.out 0).trans rfl
                    have hcz1 := (blk_cell BK7.out 1).trans rfl
                    have hcz2 := (blk_cell BK7.out 2).trans rfl
                    have hfz1 := blk_frozen BK7.out 1
                    go_upto_region 28 with fail
                    have HBS := Aside0.mk (HB.out.setCell (p := ⟨gb, 1, none⟩) HGB.out (.int .i64 3))
                    have BK8 := Aside0.mk (blk_put (cs' := #[.string t.f0, .int .i64 3, .slice A2 t.f2.length c2]) BK7.out 1 (.int .i64 3) rfl)
                    obtain ⟨w8, hw8⟩ : ∃ w8, w8 = w7.setCell ⟨gb, 1, none⟩ (.int .i64 3) := ⟨_, rfl⟩
                    rw [← hw8] at HBS BK8
                    rw [← hw8]
                    clear hw8 hcz0 hcz1 hcz2 hfz1 BK7 HB hd0 hd1
                    have hcz0 := (blk_cell BK8.out 0).trans rfl
                    have hcz1 := (blk_cell BK8.out 1).trans rfl
                    have hcz2 := (blk_cell BK8.out 2).trans rfl
                    go_wp2_with (first | (go_at_call 17; refine (own_at (some ⟨w8.heap.size, 0, none⟩) 1 [(⟨t.f0, 3, t.f2⟩ : S45)] (w8.alloc (.cells #[.string t.f0, .int .i64 3, .slice A2 t.f2.length c2] 45)) (C_one w8 t.f0 3 t.f2 A2 c2 (Kd.C_below HR2.out HBS.out) HC2.out) (by simp) (by simp) (by intro x hx; simp at hx; subst hx; exact Nat.le_trans H8.out (by decide))).mono ?_; rintro e w5 ⟨A5, c5, rfl, ho5, hc5, hb5⟩; have HB5 := Aside0.mk (below_step (HBS.out.alloc HBS.out.size _) hb5); have HO5 := Aside0.mk ho5; have HC5 := Aside0.mk hc5; clear ho5 hc5 hb5) | ((with_reducible refine gate_builtin (b := .append) (xs := #[.const (.slice none 0 0), .tmp 114]) rfl ?_); (try (refine gate_guard (by rfl) ?_; dsimp only)); at_builtin; refine Kd.R_append_rows k51 (w0 := w) w.heap.size rfl (.const (.slice none 0 0)) (.tmp 114) 46 51 (.agg #[(.string ⟨#[]⟩), (.string ⟨#[]⟩)]) 32 rfl Tryd.underlying46 info51 rfl (by decide) (by omega) (.slice none 0 0) ([] : List (S51)) l1 _ _ _ (fun _ => True) (fun _ => False) rfl rfl ?aO ?aR (fun _ _ h => h) (fun _ h => h.elim) ?aF ?aB ?aS ?aL ?_; (case aR => exact Kd.C_below HR1.out HB5.out); (case aB => exact HB5.out); (case aF => exact (fun _ _ => trivial)); (case aO => exact (Kd.R_nil _ _ _ _ (fun _ => True))); (case aS => exact HB5.out.size); (case aL => have := HL1.out; simp; omega); intro v6 w6 ho hb hg hat; rw [List.nil_append] at ho; obtain ⟨A6, c6, e6⟩ := Kd.R_slice ho; subst e6; have HQ6 := Aside0.mk ((Kd.R_reads' ho).2.2); have HC6 := Aside0.mk ((Kd.R_reads' ho).2.1); have hg6 := below_of_grown hg; have HO6 := Aside0.mk (Kd.C_below HO5.out hg6); have HB6 := Aside0.mk hb; clear ho hb hg hat hg6 HO5 HB5) | (go_at_call 37; refine (match_at _ _ [(⟨t.f0, 3, t.f2⟩ : S45)] _ _ l1 _ _ HMY.out _ HO6.out HC5.out HQ6.out HC6.out).mono ?_; rintro e w7 ⟨rfl, hb7⟩; have HBE := Aside0.mk (below_step HB6.out hb7); clear HB6 HO6 HC5 HQ6 HC6 hb7))
                    go_roundg g
                    case measure => omega
                    case rel => exact ⟨i + 1, _, rfl, by go_num, by omega, by omega, ⟨HHH.out⟩, HBE⟩
                · have HX := Lib.hid (show holdB l1 t = false by rw [hold_eq l1 t HPP.out, hth, hin2]; simp [hh])
                  have HPF := Lib.hid (prop_flip HPP.out 2 (by omega))
                  have HY := Lib.hid (show holdB l1 (flipT t 2) = true by rw [hold_eq l1 _ HPF.out]; show (if (2 : Int) = 0 then thereB l1 t.f0 && memB t.f2 (valS l1 t.f0) else if (2 : Int) = 1 then !(thereB l1 t.f0 && memB t.f2 (valS l1 t.f0)) else if (2 : Int) = 2 then thereB l1 t.f0 else !thereB l1 t.f0) = true; rw [hth, hin2]; rfl)
                  have HMX := Lib.hid (show mR [t] l1 = (false, 0) by rw [mR_one l1 HVR.out t HPP.out, HX.out])
                  have HMY := Lib.hid (show mR [flipT t 2] l1 = (true, 0) by rw [mR_one l1 HVR.out _ HPF.out, HY.out])
                  have HBK := BK
                  rw [hh] at HBK
                  have hd0 := (blk_cell HBK.out 0).trans rfl
                  have hd1 := (blk_cell HBK.out 1).trans rfl
                  have HH := HNX.out
                  rw [HX.out] at HH
                  have HHH := Lib.hid HH
                  clear HH hh BK hin2
                  cases b with
                  | true =>
                    have HB := hbx
                    go_upto_region 27 with (first | (go_at_call 17; refine (own_at (some (ad.add (i * 3))) _ [t] _ (Kd.C_below HMID2.out HB.out) (by simp; omega) (by simp) (by intro x hx; simp at hx; subst hx; have := H8.out; omega)).mono ?_; rintro e w5 ⟨A5, c5, rfl, ho5, hc5, hb5⟩; have HB5 := Aside0.mk (below_step HB.out hb5); have HO5 := Aside0.mk ho5; have HC5 := Aside0.mk hc5; have BK5 := Aside0.mk (blk_below HBK.out hb5); clear ho5 hc5 HB HBK hb5) | ((with_reducible refine gate_builtin (b := .append) (xs := #[.const (.slice none 0 0), .tmp 101]) rfl ?_); (try (refine gate_guard (by rfl) ?_; dsimp only)); at_builtin; refine Kd.R_append_rows k51 (w0 := w) w.heap.size rfl (.const (.slice none 0 0)) (.tmp 101) 46 51 (.agg #[(.string ⟨#[]⟩), (.string ⟨#[]⟩)]) 32 rfl Tryd.underlying46 info51 rfl (by decide) (by omega) (.slice none 0 0) ([] : List (S51)) l1 _ _ _ (fun _ => True) (fun _ => False) rfl rfl ?aO ?aR (fun _ _ h => h) (fun _ h => h.elim) ?aF ?aB ?aS ?aL ?_; (case aR => exact Kd.C_below HR1.out HB5.out); (case aB => exact HB5.out); (case aF => exact (fun _ _ => trivial)); (case aO => exact (Kd.R_nil _ _ _ _ (fun _ => True))); (case aS => exact HB5.out.size); (case aL => have := HL1.out; simp; omega); intro v6 w6 ho hb hg hat; rw [List.nil_append] at ho; obtain ⟨A6, c6, e6⟩ := Kd.R_slice ho; subst e6; have HQ6 := Aside0.mk ((Kd.R_reads' ho).2.2); have HC6 := Aside0.mk ((Kd.R_reads' ho).2.1); have hg6 := below_of_grown hg; have HO6 := Aside0.mk (Kd.C_below HO5.out hg6); have HB6 := Aside0.mk hb; have BK6 := Aside0.mk (blk_below BK5.out hg6); clear BK5; clear ho hb hg hat hg6 HO5 HB5) | (go_at_call 37; refine (match_at _ _ [t] _ _ l1 _ _ HMX.out _ HO6.out HC5.out HQ6.out HC6.out).mono ?_; rintro e w7 ⟨rfl, hb7⟩; have HB := Aside0.mk (below_step HB6.out hb7); have BK7 := Aside0.mk (blk_below BK6.out hb7); clear BK6; clear HB6 HO6 HC5 HQ6 HC6 hb7))
                    have hcz0 := (blk_cell BK7.out 0).trans rfl
                    have hcz1 := (blk_cell BK7.out 1).trans rfl
                    have hcz2 := (blk_cell BK7.out 2).trans rfl
                    have hfz1 := blk_frozen BK7.out 1
                    go_upto_region 28 with fail
                    have HBS := Aside0.mk (HB.out.setCell (p := ⟨gb, 1, none⟩) HGB.out (.int .i64 2))
                    have BK8 := Aside0.mk (blk_put (cs' := #[.string t.f0, .int .i64 2, .slice A2 t.f2.length c2]) BK7.out 1 (.int .i64 2) rfl)
                    obtain ⟨w8, hw8⟩ : ∃ w8, w8 = w7.setCell ⟨gb, 1, none⟩ (.int .i64 2) := ⟨_, rfl⟩
                    rw [← hw8] at HBS BK8
                    rw [← hw8]
                    clear hw8 hcz0 hcz1 hcz2 hfz1 BK7 HB hd0 hd1
                    have hcz0 := (blk_cell BK8.out 0).trans rfl
                    have hcz1 := (blk_cell BK8.out 1).trans rfl
                    have hcz2 := (blk_cell BK8.out 2).trans rfl
                    go_wp2_with (first | (go_at_call 17; refine (own_at (some ⟨w8.heap.size, 0, none⟩) 1 [(⟨t.f0, 2, t.f2⟩ : S45)] (w8.alloc (.cells #[.string t.f0, .int .i64 2, .slice A2 t.f2.length c2] 45)) (C_one w8 t.f0 2 t.f2 A2 c2 (Kd.C_below HR2.out HBS.out) HC2.out) (by simp) (by simp) (by intro x hx; simp at hx; subst hx; exact Nat.le_trans H8.out (by decide))).mono ?_; rintro e w5 ⟨A5, c5, rfl, ho5, hc5, hb5⟩; have HB5 := Aside0.mk (below_step (HBS.out.alloc HBS.out.size _) hb5); have HO5 := Aside0.mk ho5; have HC5 := Aside0.mk hc5; clear ho5 hc5 hb5) | ((with_reducible refine gate_builtin (b := .append) (xs := #[.const (.slice none 0 0), .tmp 114]) rfl ?_); (try (refine gate_guard (by rfl) ?_; dsimp only)); at_builtin; refine Kd.R_append_rows k51 (w0 := w) w.heap.size rfl (.const (.slice none 0 0)) (.tmp 114) 46 51 (.agg #[(.string ⟨#[]⟩), (.string ⟨#[]⟩)]) 32 rfl Tryd.underlying46 info51 rfl (by decide) (by omega) (.slice none 0 0) ([] : List (S51)) l1 _ _ _ (fun _ => True) (fun _ => False) rfl rfl ?aO ?aR (fun _ _ h => h) (fun _ h => h.elim) ?aF ?aB ?aS ?aL ?_; (case aR => exact Kd.C_below HR1.out HB5.out); (case aB => exact HB5.out); (case aF => exact (fun _ _ => trivial)); (case aO => exact (Kd.R_nil _ _ _ _ (fun _ => True))); (case aS => exact HB5.out.size); (case aL => have := HL1.out; simp; omega); intro v6 w6 ho hb hg hat; rw [List.nil_append] at ho; obtain ⟨A6, c6, e6⟩ := Kd.R_slice ho; subst e6; have HQ6 := Aside0.mk ((Kd.R_reads' ho).2.2); have HC6 := Aside0.mk ((Kd.R_reads' ho).2.1); have hg6 := below_of_grown hg; have HO6 := Aside0.mk (Kd.C_below HO5.out hg6); have HB6 := Aside0.mk hb; clear ho hb hg hat hg6 HO5 HB5) | (go_at_call 37; refine (match_at _ _ [(⟨t.f0, 2, t.f2⟩ : S45)] _ _ l1 _ _ HMY.out _ HO6.out HC5.out HQ6.out HC6.out).mono ?_; rintro e w7 ⟨rfl, hb7⟩; have HBE := Aside0.mk (below_step HB6.out hb7); clear HB6 HO6 HC5 HQ6 HC6 hb7))
                    go_roundg g
                    case measure => omega
                    case rel => exact ⟨i + 1, _, rfl, by go_num, by omega, by omega, ⟨HHH.out⟩, HBE⟩
                  | false =>
                    have HB := hbx
                    go_upto_region 27 with (first | (go_at_call 17; refine (own_at (some (ad.add (i * 3))) _ [t] _ (Kd.C_below HMID2.out HB.out) (by simp; omega) (by simp) (by intro x hx; simp at hx; subst hx; have := H8.out; omega)).mono ?_; rintro e w5 ⟨A5, c5, rfl, ho5, hc5, hb5⟩; have HB5 := Aside0.mk (below_step HB.out hb5); have HO5 := Aside0.mk ho5; have HC5 := Aside0.mk hc5; have BK5 := Aside0.mk (blk_below HBK.out hb5); clear ho5 hc5 HB HBK hb5) | ((with_reducible refine gate_builtin (b := .append) (xs := #[.const (.slice none 0 0), .tmp 101]) rfl ?_); (try (refine gate_guard (by rfl) ?_; dsimp only)); at_builtin; refine Kd.R_append_rows k51 (w0 := w) w.heap.size rfl (.const (.slice none 0 0)) (.tmp 101) 46 51 (.agg #[(.string ⟨#[]⟩), (.string ⟨#[]⟩)]) 32 rfl Tryd.underlying46 info51 rfl (by decide) (by omega) (.slice none 0 0) ([] : List (S51)) l1 _ _ _ (fun _ => True) (fun _ => False) rfl rfl ?aO ?aR (fun _ _ h => h) (fun _ h => h.elim) ?aF ?aB ?aS ?aL ?_; (case aR => exact Kd.C_below HR1.out HB5.out); (case aB => exact HB5.out); (case aF => exact (fun _ _ => trivial)); (case aO => exact (Kd.R_nil _ _ _ _ (fun _ => True))); (case aS => exact HB5.out.size); (case aL => have := HL1.out; simp; omega); intro v6 w6 ho hb hg hat; rw [List.nil_append] at ho; obtain ⟨A6, c6, e6⟩ := Kd.R_slice ho; subst e6; have HQ6 := Aside0.mk ((Kd.R_reads' ho).2.2); have HC6 := Aside0.mk ((Kd.R_reads' ho).2.1); have hg6 := below_of_grown hg; have HO6 := Aside0.mk (Kd.C_below HO5.out hg6); have HB6 := Aside0.mk hb; have BK6 := Aside0.mk (blk_below BK5.out hg6); clear BK5; clear ho hb hg hat hg6 HO5 HB5) | (go_at_call 37; refine (match_at _ _ [t] _ _ l1 _ _ HMX.out _ HO6.out HC5.out HQ6.out HC6.out).mono ?_; rintro e w7 ⟨rfl, hb7⟩; have HB := Aside0.mk (below_step HB6.out hb7); have BK7 := Aside0.mk (blk_below BK6.out hb7); clear BK6; clear HB6 HO6 HC5 HQ6 HC6 hb7))
                    have hcz0 := (blk_cell BK7.out 0).trans rfl
                    have hcz1 := (blk_cell BK7.out 1).trans rfl
                    have hcz2 := (blk_cell BK7.out 2).trans rfl
                    have hfz1 := blk_frozen BK7.out 1
                    go_upto_region 28 with fail
                    have HBS := Aside0.mk (HB.out.setCell (p := ⟨gb, 1, none⟩) HGB.out (.int .i64 2))
                    have BK8 := Aside0.mk (blk_put (cs' := #[.string t.f0, .int .i64 2, .slice A2 t.f2.length c2]) BK7.out 1 (.int .i64 2) rfl)
                    obtain ⟨w8, hw8⟩ : ∃ w8, w8 = w7.setCell ⟨gb, 1, none⟩ (.int .i64 2) := ⟨_, rfl⟩
                    rw [← hw8] at HBS BK8
                    rw [← hw8]
                    clear hw8 hcz0 hcz1 hcz2 hfz1 BK7 HB hd0 hd1
                    have hcz0 := (blk_cell BK8.out 0).trans rfl
                    have hcz1 := (blk_cell BK8.out 1).trans rfl
                    have hcz2 := (blk_cell BK8.out 2).trans rfl
                    go_wp2_with (first | (go_at_call 17; refine (own_at (some ⟨w8.heap.size, 0, none⟩) 1 [(⟨t.f0, 2, t.f2⟩ : S45)] (w8.alloc (.cells #[.string t.f0, .int .i64 2, .slice A2 t.f2.length c2] 45)) (C_one w8 t.f0 2 t.f2 A2 c2 (Kd.C_below HR2.out HBS.out) HC2.out) (by simp) (by simp) (by intro x hx; simp at hx; subst hx; exact Nat.le_trans H8.out (by decide))).mono ?_; rintro e w5 ⟨A5, c5, rfl, ho5, hc5, hb5⟩; have HB5 := Aside0.mk (below_step (HBS.out.alloc HBS.out.size _) hb5); have HO5 := Aside0.mk ho5; have HC5 := Aside0.mk hc5; clear ho5 hc5 hb5) | ((with_reducible refine gate_builtin (b := .append) (xs := #[.const (.slice none 0 0), .tmp 114]) rfl ?_); (try (refine gate_guard (by rfl) ?_; dsimp only)); at_builtin; refine Kd.R_append_rows k51 (w0 := w) w.heap.size rfl (.const (.slice none 0 0)) (.tmp 114) 46 51 (.agg #[(.string ⟨#[]⟩), (.string ⟨#[]⟩)]) 32 rfl Tryd.underlying46 info51 rfl (by decide) (by omega) (.slice none 0 0) ([] : List (S51)) l1 _ _ _ (fun _ => True) (fun _ => False) rfl rfl ?aO ?aR (fun _ _ h => h) (fun _ h => h.elim) ?aF ?aB ?aS ?aL ?_; (case aR => exact Kd.C_below HR1.out HB5.out); (case aB => exact HB5.out); (case aF => exact (fun _ _ => trivial)); (case aO => exact (Kd.R_nil _ _ _ _ (fun _ => True))); (case aS => exact HB5.out.size); (case aL => have := HL1.out; simp; omega); intro v6 w6 ho hb hg hat; rw [List.nil_append] at ho; obtain ⟨A6, c6, e6⟩ := Kd.R_slice ho; subst e6; have HQ6 := Aside0.mk ((Kd.R_reads' ho).2.2); have HC6 := Aside0.mk ((Kd.R_reads' ho).2.1); have hg6 := below_of_grown hg; have HO6 := Aside0.mk (Kd.C_below HO5.out hg6); have HB6 := Aside0.mk hb; clear ho hb hg hat hg6 HO5 HB5) | (go_at_call 37; refine (match_at _ _ [(⟨t.f0, 2, t.f2⟩ : S45)] _ _ l1 _ _ HMY.out _ HO6.out HC5.out HQ6.out HC6.out).mono ?_; rintro e w7 ⟨rfl, hb7⟩; have HBE := Aside0.mk (below_step HB6.out hb7); clear HB6 HO6 HC5 HQ6 HC6 hb7))
                    go_roundg g
                    case measure => omega
                    case rel => exact ⟨i + 1, _, rfl, by go_num, by omega, by omega, ⟨HHH.out⟩, HBE⟩
                · have HX := Lib.hid (show holdB l1 t = true by rw [hold_eq l1 t HPP.out, hth, hin2]; simp [hh])
                  have HPF := Lib.hid (prop_flip HPP.out 1 (by omega))
                  have HY := Lib.hid (show holdB l1 (flipT t 1) = false by rw [hold_eq l1 _ HPF.out]; show (if (1 : Int) = 0 then thereB l1 t.f0 && memB t.f2 (valS l1 t.f0) else if (1 : Int) = 1 then !(thereB l1 t.f0 && memB t.f2 (valS l1 t.f0)) else if (1 : Int) = 2 then thereB l1 t.f0 else !thereB l1 t.f0) = false; rw [hth, hin2]; rfl)
                  have HMX := Lib.hid (show mR [t] l1 = (true, 0) by rw [mR_one l1 HVR.out t HPP.out, HX.out])
                  have HMY := Lib.hid (show mR [flipT t 1] l1 = (false, 0) by rw [mR_one l1 HVR.out _ HPF.out, HY.out])
                  have HBK := BK
                  rw [hh] at HBK
                  have hd0 := (blk_cell HBK.out 0).trans rfl
                  have hd1 := (blk_cell HBK.out 1).trans rfl
                  have HH := HNX.out
                  rw [HX.out] at HH
                  have HHH := Lib.hid HH
                  clear HH hh BK hin2
                  cases b with
                  | true =>
                    have HB := hbx
                    go_upto_region 27 with (first | (go_at_call 17; refine (own_at (some (ad.add (i * 3))) _ [t] _ (Kd.C_below HMID2.out HB.out) (by simp; omega) (by simp) (by intro x hx; simp at hx; subst hx; have := H8.out; omega)).mono ?_; rintro e w5 ⟨A5, c5, rfl, ho5, hc5, hb5⟩; have HB5 := Aside0.mk (below_step HB.out hb5); have HO5 := Aside0.mk ho5; have HC5 := Aside0.mk hc5; have BK5 := Aside0.mk (blk_below HBK.out hb5); clear ho5 hc5 HB HBK hb5) | ((with_reducible refine gate_builtin (b := .append) (xs := #[.const (.slice none 0 0), .tmp 101]) rfl ?_); (try (refine gate_guard (by rfl) ?_; dsimp only)); at_builtin; refine Kd.R_append_rows k51 (w0 := w) w.heap.size rfl (.const (.slice none 0 0)) (.tmp 101) 46 51 (.agg #[(.string ⟨#[]⟩), (.string ⟨#[]⟩)]) 32 rfl Tryd.underlying46 info51 rfl (by decide) (by omega) (.slice none 0 0) ([] : List (S51)) l1 _ _ _ (fun _ => True) (fun _ => False) rfl rfl ?aO ?aR (fun _ _ h => h) (fun _ h => h.elim) ?aF ?aB ?aS ?aL ?_; (case aR => exact Kd.C_below HR1.out HB5.out); (case aB => exact HB5.out); (case aF => exact (fun _ _ => trivial)); (case aO => exact (Kd.R_nil _ _ _ _ (fun _ => True))); (case aS => exact HB5.out.size); (case aL => have := HL1.out; simp; omega); intro v6 w6 ho hb hg hat; rw [List.nil_append] at ho; obtain ⟨A6, c6, e6⟩ := Kd.R_slice ho; subst e6; have HQ6 := Aside0.mk ((Kd.R_reads' ho).2.2); have HC6 := Aside0.mk ((Kd.R_reads' ho).2.1); have hg6 := below_of_grown hg; have HO6 := Aside0.mk (Kd.C_below HO5.out hg6); have HB6 := Aside0.mk hb; have BK6 := Aside0.mk (blk_below BK5.out hg6); clear BK5; clear ho hb hg hat hg6 HO5 HB5) | (go_at_call 37; refine (match_at _ _ [t] _ _ l1 _ _ HMX.out _ HO6.out HC5.out HQ6.out HC6.out).mono ?_; rintro e w7 ⟨rfl, hb7⟩; have HB := Aside0.mk (below_step HB6.out hb7); have BK7 := Aside0.mk (blk_below BK6.out hb7); clear BK6; clear HB6 HO6 HC5 HQ6 HC6 hb7))
                    have hcz0 := (blk_cell BK7.out 0).trans rfl
                    have hcz1 := (blk_cell BK7.out 1).trans rfl
                    have hcz2 := (blk_cell BK7.out 2).trans rfl
                    have hfz1 := blk_frozen BK7.out 1
                    go_upto_region 28 with fail
                    have HBS := Aside0.mk (HB.out.setCell (p := ⟨gb, 1, none⟩) HGB.out (.int .i64 1))
                    have BK8 := Aside0.mk (blk_put (cs' := #[.string t.f0, .int .i64 1, .slice A2 t.f2.length c2]) BK7.out 1 (.int .i64 1) rfl)
                    obtain ⟨w8, hw8⟩ : ∃ w8, w8 = w7.setCell ⟨gb, 1, none⟩ (.int .i64 1) := ⟨_, rfl⟩
                    rw [← hw8] at HBS BK8
                    rw [← hw8]
                    clear hw8 hcz0 hcz1 hcz2 hfz1 BK7 HB hd0 hd1
                    have hcz0 := (blk_cell BK8.out 0).trans rfl
                    have hcz1 := (blk_cell BK8.out 1).trans rfl
                    have hcz2 := (blk_cell BK8.out 2).trans rfl
                    go_wp2_with (first | (go_at_call 17; refine (own_at (some ⟨w8.heap.size, 0, none⟩) 1 [(⟨t.f0, 1, t.f2⟩ : S45)] (w8.alloc (.cells #[.string t.f0, .int .i64 1, .slice A2 t.f2.length c2] 45)) (C_one w8 t.f0 1 t.f2 A2 c2 (Kd.C_below HR2.out HBS.out) HC2.out) (by simp) (by simp) (by intro x hx; simp at hx; subst hx; exact Nat.le_trans H8.out (by decide))).mono ?_; rintro e w5 ⟨A5, c5, rfl, ho5, hc5, hb5⟩; have HB5 := Aside0.mk (below_step (HBS.out.alloc HBS.out.size _) hb5); have HO5 := Aside0.mk ho5; have HC5 := Aside0.mk hc5; clear ho5 hc5 hb5) | ((with_reducible refine gate_builtin (b := .append) (xs := #[.const (.slice none 0 0), .tmp 114]) rfl ?_); (try (refine gate_guard (by rfl) ?_; dsimp only)); at_builtin; refine Kd.R_append_rows k51 (w0 := w) w.heap.size rfl (.const (.slice none 0 0)) (.tmp 114) 46 51 (.agg #[(.string ⟨#[]⟩), (.string ⟨#[]⟩)]) 32 rfl Tryd.underlying46 info51 rfl (by decide) (by omega) (.slice none 0 0) ([] : List (S51)) l1 _ _ _ (fun _ => True) (fun _ => False) rfl rfl ?aO ?aR (fun _ _ h => h) (fun _ h => h.elim) ?aF ?aB ?aS ?aL ?_; (case aR => exact Kd.C_below HR1.out HB5.out); (case aB => exact HB5.out); (case aF => exact (fun _ _ => trivial)); (case aO => exact (Kd.R_nil _ _ _ _ (fun _ => True))); (case aS => exact HB5.out.size); (case aL => have := HL1.out; simp; omega); intro v6 w6 ho hb hg hat; rw [List.nil_append] at ho; obtain ⟨A6, c6, e6⟩ := Kd.R_slice ho; subst e6; have HQ6 := Aside0.mk ((Kd.R_reads' ho).2.2); have HC6 := Aside0.mk ((Kd.R_reads' ho).2.1); have hg6 := below_of_grown hg; have HO6 := Aside0.mk (Kd.C_below HO5.out hg6); have HB6 := Aside0.mk hb; clear ho hb hg hat hg6 HO5 HB5) | (go_at_call 37; refine (match_at _ _ [(⟨t.f0, 1, t.f2⟩ : S45)] _ _ l1 _ _ HMY.out _ HO6.out HC5.out HQ6.out HC6.out).mono ?_; rintro e w7 ⟨rfl, hb7⟩; have HBE := Aside0.mk (below_step HB6.out hb7); clear HB6 HO6 HC5 HQ6 HC6 hb7))
                    go_roundg g
                    case measure => omega
                    case rel => exact ⟨i + 1, _, rfl, by go_num, by omega, by omega, ⟨HHH.out⟩, HBE⟩
                  | false =>
                    have HB := hbx
                    go_upto_region 27 with (first | (go_at_call 17; refine (own_at (some (ad.add (i * 3))) _ [t] _ (Kd.C_below HMID2.out HB.out) (by simp; omega) (by simp) (by intro x hx; simp at hx; subst hx; have := H8.out; omega)).mono ?_; rintro e w5 ⟨A5, c5, rfl, ho5, hc5, hb5⟩; have HB5 := Aside0.mk (below_step HB.out hb5); have HO5 := Aside0.mk ho5; have HC5 := Aside0.mk hc5; have BK5 := Aside0.mk (blk_below HBK.out hb5); clear ho5 hc5 HB HBK hb5) | ((with_reducible refine gate_builtin (b := .append) (xs := #[.const (.slice none 0 0), .tmp 101]) rfl ?_); (try (refine gate_guard (by rfl) ?_; dsimp only)); at_builtin; refine Kd.R_append_rows k51 (w0 := w) w.heap.size rfl (.const (.slice none 0 0)) (.tmp 101) 46 51 (.agg #[(.string ⟨#[]⟩), (.string ⟨#[]⟩)]) 32 rfl Tryd.underlying46 info51 rfl (by decide) (by omega) (.slice none 0 0) ([] : List (S51)) l1 _ _ _ (fun _ => True) (fun _ => False) rfl rfl ?aO ?aR (fun _ _ h => h) (fun _ h => h.elim) ?aF ?aB ?aS ?aL ?_; (case aR => exact Kd.C_below HR1.out HB5.out); (case aB => exact HB5.out); (case aF => exact (fun _ _ => trivial)); (case aO => exact (Kd.R_nil _ _ _ _ (fun _ => True))); (case aS => exact HB5.out.size); (case aL => have := HL1.out; simp; omega); intro v6 w6 ho hb hg hat; rw [List.nil_append] at ho; obtain ⟨A6, c6, e6⟩ := Kd.R_slice ho; subst e6; have HQ6 := Aside0.mk ((Kd.R_reads' ho).2.2); have HC6 := Aside0.mk ((Kd.R_reads' ho).2.1); have hg6 := below_of_grown hg; have HO6 := Aside0.mk (Kd.C_below HO5.out hg6); have HB6 := Aside0.mk hb; have BK6 := Aside0.mk (blk_below BK5.out hg6); clear BK5; clear ho hb hg hat hg6 HO5 HB5) | (go_at_call 37; refine (match_at _ _ [t] _ _ l1 _ _ HMX.out _ HO6.out HC5.out HQ6.out HC6.out).mono ?_; rintro e w7 ⟨rfl, hb7⟩; have HB := Aside0.mk (below_step HB6.out hb7); have BK7 := Aside0.mk (blk_below BK6.out hb7); clear BK6; clear HB6 HO6 HC5 HQ6 HC6 hb7))
                    have hcz0 := (blk_cell BK7.out 0).trans rfl
                    have hcz1 := (blk_cell BK7.out 1).trans rfl
                    have hcz2 := (blk_cell BK7.out 2).trans rfl
                    have hfz1 := blk_frozen BK7.out 1
                    go_upto_region 28 with fail
                    have HBS := Aside0.mk (HB.out.setCell (p := ⟨gb, 1, none⟩) HGB.out (.int .i64 1))
                    have BK8 := Aside0.mk (blk_put (cs' := #[.string t.f0, .int .i64 1, .slice A2 t.f2.length c2]) BK7.out 1 (.int .i64 1) rfl)
                    obtain ⟨w8, hw8⟩ : ∃ w8, w8 = w7.setCell ⟨gb, 1, none⟩ (.int .i64 1) := ⟨_, rfl⟩
                    rw [← hw8] at HBS BK8
                    rw [← hw8]
                    clear hw8 hcz0 hcz1 hcz2 hfz1 BK7 HB hd0 hd1
                    have hcz0 := (blk_cell BK8.out 0).trans rfl
                    have hcz1 := (blk_cell BK8.out 1).trans rfl
                    have hcz2 := (blk_cell BK8.out 2).trans rfl
                    go_wp2_with (first | (go_at_call 17; refine (own_at (some ⟨w8.heap.size, 0, none⟩) 1 [(⟨t.f0, 1, t.f2⟩ : S45)] (w8.alloc (.cells #[.string t.f0, .int .i64 1, .slice A2 t.f2.length c2] 45)) (C_one w8 t.f0 1 t.f2 A2 c2 (Kd.C_below HR2.out HBS.out) HC2.out) (by simp) (by simp) (by intro x hx; simp at hx; subst hx; exact Nat.le_trans H8.out (by decide))).mono ?_; rintro e w5 ⟨A5, c5, rfl, ho5, hc5, hb5⟩; have HB5 := Aside0.mk (below_step (HBS.out.alloc HBS.out.size _) hb5); have HO5 := Aside0.mk ho5; have HC5 := Aside0.mk hc5; clear ho5 hc5 hb5) | ((with_reducible refine gate_builtin (b := .append) (xs := #[.const (.slice none 0 0), .tmp 114]) rfl ?_); (try (refine gate_guard (by rfl) ?_; dsimp only)); at_builtin; refine Kd.R_append_rows k51 (w0 := w) w.heap.size rfl (.const (.slice none 0 0)) (.tmp 114) 46 51 (.agg #[(.string ⟨#[]⟩), (.string ⟨#[]⟩)]) 32 rfl Tryd.underlying46 info51 rfl (by decide) (by omega) (.slice none 0 0) ([] : List (S51)) l1 _ _ _ (fun _ => True) (fun _ => False) rfl rfl ?aO ?aR (fun _ _ h => h) (fun _ h => h.elim) ?aF ?aB ?aS ?aL ?_; (case aR => exact Kd.C_below HR1.out HB5.out); (case aB => exact HB5.out); (case aF => exact (fun _ _ => trivial)); (case aO => exact (Kd.R_nil _ _ _ _ (fun _ => True))); (case aS => exact HB5.out.size); (case aL => have := HL1.out; simp; omega); intro v6 w6 ho hb hg hat; rw [List.nil_append] at ho; obtain ⟨A6, c6, e6⟩ := Kd.R_slice ho; subst e6; have HQ6 := Aside0.mk ((Kd.R_reads' ho).2.2); have HC6 := Aside0.mk ((Kd.R_reads' ho).2.1); have hg6 := below_of_grown hg; have HO6 := Aside0.mk (Kd.C_below HO5.out hg6); have HB6 := Aside0.mk hb; clear ho hb hg hat hg6 HO5 HB5) | (go_at_call 37; refine (match_at _ _ [(⟨t.f0, 1, t.f2⟩ : S45)] _ _ l1 _ _ HMY.out _ HO6.out HC5.out HQ6.out HC6.out).mono ?_; rintro e w7 ⟨rfl, hb7⟩; have HBE := Aside0.mk (below_step HB6.out hb7); clear HB6 HO6 HC5 HQ6 HC6 hb7))
                    go_roundg g
                    case measure => omega
                    case rel => exact ⟨i + 1, _, rfl, by go_num, by omega, by omega, ⟨HHH.out⟩, HBE⟩
                · have HX := Lib.hid (show holdB l1 t = false by rw [hold_eq l1 t HPP.out, hth, hin2]; simp [hh])
                  have HPF := Lib.hid (prop_flip HPP.out 0 (by omega))
                  have HY := Lib.hid (show holdB l1 (flipT t 0) = true by rw [hold_eq l1 _ HPF.out]; show (if (0 : Int) = 0 then thereB l1 t.f0 && memB t.f2 (valS l1 t.f0) else if (0 : Int) = 1 then !(thereB l1 t.f0 && memB t.f2 (valS l1 t.f0)) else if (0 : Int) = 2 then thereB l1 t.f0 else !thereB l1 t.f0) = true; rw [hth, hin2]; rfl)
                  have HMX := Lib.hid (show mR [t] l1 = (false, 0) by rw [mR_one l1 HVR.out t HPP.out, HX.out])
                  have HMY := Lib.hid (show mR [flipT t 0] l1 = (true, 0) by rw [mR_one l1 HVR.out _ HPF.out, HY.out])
                  have HBK := BK
                  rw [hh] at HBK
                  have hd0 := (blk_cell HBK.out 0).trans rfl
                  have hd1 := (blk_cell HBK.out 1).trans rfl
                  have HH := HNX.out
                  rw [HX.out] at HH
                  have HHH := Lib.hid HH
                  clear HH hh BK hin2
                  cases b with
                  | true =>
                    have HB := hbx
                    go_upto_region 27 with (first | (go_at_call 17; refine (own_at (some (ad.add (i * 3))) _ [t] _ (Kd.C_below HMID2.out HB.out) (by simp; omega) (by simp) (by intro x hx; simp at hx; subst hx; have := H8.out; omega)).mono ?_; rintro e w5 ⟨A5, c5, rfl, ho5, hc5, hb5⟩; have HB5 := Aside0.mk (below_step HB.out hb5); have HO5 := Aside0.mk ho5; have HC5 := Aside0.mk hc5; have BK5 := Aside0.mk (blk_below HBK.out hb5); clear ho5 hc5 HB HBK hb5) | ((with_reducible refine gate_builtin (b := .append) (xs := #[.const (.slice none 0 0), .tmp 101]) rfl ?_); (try (refine gate_guard (by rfl) ?_; dsimp only)); at_builtin; refine Kd.R_append_rows k51 (w0 := w) w.heap.size rfl (.const (.slice none 0 0)) (.tmp 101) 46 51 (.agg #[(.string ⟨#[]⟩), (.string ⟨#[]⟩)]) 32 rfl Tryd.underlying46 info51 rfl (by decide) (by omega) (.slice none 0 0) ([] : List (S51)) l1 _ _ _ (fun _ => True) (fun _ => False) rfl rfl ?aO ?aR (fun _ _ h => h) (fun _ h => h.elim) ?aF ?aB ?aS ?aL ?_; (case aR => exact Kd.C_below HR1.out HB5.out); (case aB => exact HB5.out); (case aF => exact (fun _ _ => trivial)); (case aO => exact (Kd.R_nil _ _ _ _ (fun _ => True))); (case aS => exact HB5.out.size); (case aL => have := HL1.out; simp; omega); intro v6 w6 ho hb hg hat; rw [List.nil_append] at ho; obtain ⟨A6, c6, e6⟩ := Kd.R_slice ho; subst e6; have HQ6 := Aside0.mk ((Kd.R_reads' ho).2.2); have HC6 := Aside0.mk ((Kd.R_reads' ho).2.1); have hg6 := below_of_grown hg; have HO6 := Aside0.mk (Kd.C_below HO5.out hg6); have HB6 := Aside0.mk hb; have BK6 := Aside0.mk (blk_below BK5.out hg6); clear BK5; clear ho hb hg hat hg6 HO5 HB5) | (go_at_call 37; refine (match_at _ _ [t] _ _ l1 _ _ HMX.out _ HO6.out HC5.out HQ6.out HC6.out).mono ?_; rintro e w7 ⟨rfl, hb7⟩; have HB := Aside0.mk (below_step HB6.out hb7); have BK7 := Aside0.mk (blk_below BK6.out hb7); clear BK6; clear HB6 HO6 HC5 HQ6 HC6 hb7))
                    have hcz0 := (blk_cell BK7.out 0).trans rfl
                    have hcz1 := (blk_cell BK7.out 1).trans rfl
                    have hcz2 := (blk_cell BK7.out 2).trans rfl
                    have hfz1 := blk_frozen BK7.out 1
                    go_upto_region 28 with fail
                    have HBS := Aside0.mk (HB.out.setCell (p := ⟨gb, 1, none⟩) HGB.out (.int .i64 0))
                    have BK8 := Aside0.mk (blk_put (cs' := #[.string t.f0, .int .i64 0, .slice A2 t.f2.length c2]) BK7.out 1 (.int .i64 0) rfl)
                    obtain ⟨w8, hw8⟩ : ∃ w8, w8 = w7.setCell ⟨gb, 1, none⟩ (.int .i64 0) := ⟨_, rfl⟩
                    rw [← hw8] at HBS BK8
                    rw [← hw8]
                    clear hw8 hcz0 hcz1 hcz2 hfz1 BK7 HB hd0 hd1
                    have hcz0 := (blk_cell BK8.out 0).trans rfl
                    have hcz1 := (blk_cell BK8.out 1).trans rfl
                    have hcz2 := (blk_cell BK8.out 2).trans rfl
                    go_wp2_with (first | (go_at_call 17; refine (own_at (some ⟨w8.heap.size, 0, none⟩) 1 [(⟨t.f0, 0, t.f2⟩ : S45)] (w8.alloc (.cells #[.string t.f0, .int .i64 0, .slice A2 t.f2.length c2] 45)) (C_one w8 t.f0 0 t.f2 A2 c2 (Kd.C_below HR2.out HBS.out) HC2.out) (by simp) (by simp) (by intro x hx; simp at hx; subst hx; exact Nat.le_trans H8.out (by decide))).mono ?_; rintro e w5 ⟨A5, c5, rfl, ho5, hc5, hb5⟩; have HB5 := Aside0.mk (below_step (HBS.out.alloc HBS.out.size _) hb5); have HO5 := Aside0.mk ho5; have HC5 := Aside0.mk hc5; clear ho5 hc5 hb5) | ((with_reducible refine gate_builtin (b := .append) (xs := #[.const (.slice none 0 0), .tmp 114]) rfl ?_); (try (refine gate_guard (by rfl) ?_; dsimp only)); at_builtin; refine Kd.R_append_rows k51 (w0 := w) w.heap.size rfl (.const (.slice none 0 0)) (.tmp 114) 46 51 (.agg #[(.string ⟨#[]⟩), (.string ⟨#[]⟩)]) 32 rfl Tryd.underlying46 info51 rfl (by decide) (by omega) (.slice none 0 0) ([] : List (S51)) l1 _ _ _ (fun _ => True) (fun _ => False) rfl rfl ?aO ?aR (fun _ _ h => h) (fun _ h => h.elim) ?aF ?aB ?aS ?aL ?_; (case aR => exact Kd.C_below HR1.out HB5.out); (case aB => exact HB5.out); (case aF => exact (fun _ _ => trivial)); (case aO => exact (Kd.R_nil _ _ _ _ (fun _ => True))); (case aS => exact HB5.out.size); (case aL => have := HL1.out; simp; omega); intro v6 w6 ho hb hg hat; rw [List.nil_append] at ho; obtain ⟨A6, c6, e6⟩ := Kd.R_slice ho; subst e6; have HQ6 := Aside0.mk ((Kd.R_reads' ho).2.2); have HC6 := Aside0.mk ((Kd.R_reads' ho).2.1); have hg6 := below_of_grown hg; have HO6 := Aside0.mk (Kd.C_below HO5.out hg6); have HB6 := Aside0.mk hb; clear ho hb hg hat hg6 HO5 HB5) | (go_at_call 37; refine (match_at _ _ [(⟨t.f0, 0, t.f2⟩ : S45)] _ _ l1 _ _ HMY.out _ HO6.out HC5.out HQ6.out HC6.out).mono ?_; rintro e w7 ⟨rfl, hb7⟩; have HBE := Aside0.mk (below_step HB6.out hb7); clear HB6 HO6 HC5 HQ6 HC6 hb7))
                    go_roundg g
                    case measure => omega
                    case rel => exact ⟨i + 1, _, rfl, by go_num, by omega, by omega, ⟨HHH.out⟩, HBE⟩
                  | false =>
                    have HB := hbx
                    go_upto_region 27 with (first | (go_at_call 17; refine (own_at (some (ad.add (i * 3))) _ [t] _ (Kd.C_below HMID2.out HB.out) (by simp; omega) (by simp) (by intro x hx; simp at hx; subst hx; have := H8.out; omega)).mono ?_; rintro e w5 ⟨A5, c5, rfl, ho5, hc5, hb5⟩; have HB5 := Aside0.mk (below_step HB.out hb5); have HO5 := Aside0.mk ho5; have HC5 := Aside0.mk hc5; have BK5 := Aside0.mk (blk_below HBK.out hb5); clear ho5 hc5 HB HBK hb5) | ((with_reducible refine gate_builtin (b := .append) (xs := #[.const (.slice none 0 0), .tmp 101]) rfl ?_); (try (refine gate_guard (by rfl) ?_; dsimp only)); at_builtin; refine Kd.R_append_rows k51 (w0 := w) w.heap.size rfl (.const (.slice none 0 0)) (.tmp 101) 46 51 (.agg #[(.string ⟨#[]⟩), (.string ⟨#[]⟩)]) 32 rfl Tryd.underlying46 info51 rfl (by decide) (by omega) (.slice none 0 0) ([] : List (S51)) l1 _ _ _ (fun _ => True) (fun _ => False) rfl rfl ?aO ?aR (fun _ _ h => h) (fun _ h => h.elim) ?aF ?aB ?aS ?aL ?_; (case aR => exact Kd.C_below HR1.out HB5.out); (case aB => exact HB5.out); (case aF => exact (fun _ _ => trivial)); (case aO => exact (Kd.R_nil _ _ _ _ (fun _ => True))); (case aS => exact HB5.out.size); (case aL => have := HL1.out; simp; omega); intro v6 w6 ho hb hg hat; rw [List.nil_append] at ho; obtain ⟨A6, c6, e6⟩ := Kd.R_slice ho; subst e6; have HQ6 := Aside0.mk ((Kd.R_reads' ho).2.2); have HC6 := Aside0.mk ((Kd.R_reads' ho).2.1); have hg6 := below_of_grown hg; have HO6 := Aside0.mk (Kd.C_below HO5.out hg6); have HB6 := Aside0.mk hb; have BK6 := Aside0.mk (blk_below BK5.out hg6); clear BK5; clear ho hb hg hat hg6 HO5 HB5) | (go_at_call 37; refine (match_at _ _ [t] _ _ l1 _ _ HMX.out _ HO6.out HC5.out HQ6.out HC6.out).mono ?_; rintro e w7 ⟨rfl, hb7⟩; have HB := Aside0.mk (below_step HB6.out hb7); have BK7 := Aside0.mk (blk_below BK6.out hb7); clear BK6; clear HB6 HO6 HC5 HQ6 HC6 hb7))
                    have hcz0 := (blk_cell BK7.out 0).trans rfl
                    have hcz1 := (blk_cell BK7.out 1).trans rfl
                    have hcz2 := (blk_cell BK7.out 2).trans rfl
                    have hfz1 := blk_frozen BK7.out 1
                    go_upto_region 28 with fail
                    have HBS := Aside0.mk (HB.out.setCell (p := ⟨gb, 1, none⟩) HGB.out (.int .i64 0))
                    have BK8 := Aside0.mk (blk_put (cs' := #[.string t.f0, .int .i64 0, .slice A2 t.f2.length c2]) BK7.out 1 (.int .i64 0) rfl)
                    obtain ⟨w8, hw8⟩ : ∃ w8, w8 = w7.setCell ⟨gb, 1, none⟩ (.int .i64 0) := ⟨_, rfl⟩
                    rw [← hw8] at HBS BK8
                    rw [← hw8]
                    clear hw8 hcz0 hcz1 hcz2 hfz1 BK7 HB hd0 hd1
                    have hcz0 := (blk_cell BK8.out 0).trans rfl
                    have hcz1 := (blk_cell BK8.out 1).trans rfl
                    have hcz2 := (blk_cell BK8.out 2).trans rfl
                    go_wp2_with (first | (go_at_call 17; refine (own_at (some ⟨w8.heap.size, 0, none⟩) 1 [(⟨t.f0, 0, t.f2⟩ : S45)] (w8.alloc (.cells #[.string t.f0, .int .i64 0, .slice A2 t.f2.length c2] 45)) (C_one w8 t.f0 0 t.f2 A2 c2 (Kd.C_below HR2.out HBS.out) HC2.out) (by simp) (by simp) (by intro x hx; simp at hx; subst hx; exact Nat.le_trans H8.out (by decide))).mono ?_; rintro e w5 ⟨A5, c5, rfl, ho5, hc5, hb5⟩; have HB5 := Aside0.mk (below_step (HBS.out.alloc HBS.out.size _) hb5); have HO5 := Aside0.mk ho5; have HC5 := Aside0.mk hc5; clear ho5 hc5 hb5) | ((with_reducible refine gate_builtin (b := .append) (xs := #[.const (.slice none 0 0), .tmp 114]) rfl ?_); (try (refine gate_guard (by rfl) ?_; dsimp only)); at_builtin; refine Kd.R_append_rows k51 (w0 := w) w.heap.size rfl (.const (.slice none 0 0)) (.tmp 114) 46 51 (.agg #[(.string ⟨#[]⟩), (.string ⟨#[]⟩)]) 32 rfl Tryd.underlying46 info51 rfl (by decide) (by omega) (.slice none 0 0) ([] : List (S51)) l1 _ _ _ (fun _ => True) (fun _ => False) rfl rfl ?aO ?aR (fun _ _ h => h) (fun _ h => h.elim) ?aF ?aB ?aS ?aL ?_; (case aR => exact Kd.C_below HR1.out HB5.out); (case aB => exact HB5.out); (case aF => exact (fun _ _ => trivial)); (case aO => exact (Kd.R_nil _ _ _ _ (fun _ => True))); (case aS => exact HB5.out.size); (case aL => have := HL1.out; simp; omega); intro v6 w6 ho hb hg hat; rw [List.nil_append] at ho; obtain ⟨A6, c6, e6⟩ := Kd.R_slice ho; subst e6; have HQ6 := Aside0.mk ((Kd.R_reads' ho).2.2); have HC6 := Aside0.mk ((Kd.R_reads' ho).2.1); have hg6 := below_of_grown hg; have HO6 := Aside0.mk (Kd.C_below HO5.out hg6); have HB6 := Aside0.mk hb; clear ho hb hg hat hg6 HO5 HB5) | (go_at_call 37; refine (match_at _ _ [(⟨t.f0, 0, t.f2⟩ : S45)] _ _ l1 _ _ HMY.out _ HO6.out HC5.out HQ6.out HC6.out).mono ?_; rintro e w7 ⟨rfl, hb7⟩; have HBE := Aside0.mk (below_step HB6.out hb7); clear HB6 HO6 HC5 HQ6 HC6 hb7))
                    go_roundg g
                    case measure => omega
                    case rel => exact ⟨i + 1, _, rfl, by go_num, by omega, by omega, ⟨HHH.out⟩, HBE⟩
              | false =>
                rcases prop_how HPP.out with hh | hh | ⟨hh | hh, _⟩
                · have HX := Lib.hid (show holdB l1 t = true by rw [hold_eq l1 t HPP.out, hth, hin2]; simp [hh])
                  have HPF := Lib.hid (prop_flip HPP.out 3 (by omega))
                  have HY := Lib.hid (show holdB l1 (flipT t 3) = false by rw [hold_eq l1 _ HPF.out]; show (if (3 : Int) = 0 then thereB l1 t.f0 && memB t.f2 (valS l1 t.f0) else if (3 : Int) = 1 then !(thereB l1 t.f0 && memB t.f2 (valS l1 t.f0)) else if (3 : Int) = 2 then thereB l1 t.f0 else !thereB l1 t.f0) = false; rw [hth, hin2]; rfl)
                  have HMX := Lib.hid (show mR [t] l1 = (true, 0) by rw [mR_one l1 HVR.out t HPP.out, HX.out])
                  have HMY := Lib.hid (show mR [flipT t 3] l1 = (false, 0) by rw [mR_one l1 HVR.out _ HPF.out, HY.out])
                  have HBK := BK
                  rw [hh] at HBK
                  have hd0 := (blk_cell HBK.out 0).trans rfl
                  have hd1 := (blk_cell HBK.out 1).trans rfl
                  have HH := HNX.out
                  rw [HX.out] at HH
                  have HHH := Lib.hid HH
                  clear HH hh BK hin2
                  cases b with
                  | true =>
                    have HB := hbx
                    go_upto_region 27 with (first | (go_at_call 17; refine (own_at (some (ad.add (i * 3))) _ [t] _ (Kd.C_below HMID2.out HB.out) (by simp; omega) (by simp) (by intro x hx; simp at hx; subst hx; have := H8.out; omega)).mono ?_; rintro e w5 ⟨A5, c5, rfl, ho5, hc5, hb5⟩; have HB5 := Aside0.mk (below_step HB.out hb5); have HO5 := Aside0.mk ho5; have HC5 := Aside0.mk hc5; have BK5 := Aside0.mk (blk_below HBK.out hb5); clear ho5 hc5 HB HBK hb5) | ((with_reducible refine gate_builtin (b := .append) (xs := #[.const (.slice none 0 0), .tmp 101]) rfl ?_); (try (refine gate_guard (by rfl) ?_; dsimp only)); at_builtin; refine Kd.R_append_rows k51 (w0 := w) w.heap.size rfl (.const (.slice none 0 0)) (.tmp 101) 46 51 (.agg #[(.string ⟨#[]⟩), (.string ⟨#[]⟩)]) 32 rfl Tryd.underlying46 info51 rfl (by decide) (by omega) (.slice none 0 0) ([] : List (S51)) l1 _ _ _ (fun _ => True) (fun _ => False) rfl rfl ?aO ?aR (fun _ _ h => h) (fun _ h => h.elim) ?aF ?aB ?aS ?aL ?_; (case aR => exact Kd.C_below HR1.out HB5.out); (case aB => exact HB5.out); (case aF => exact (fun _ _ => trivial)); (case aO => exact (Kd.R_nil _ _ _ _ (fun _ => True))); (case aS => exact HB5.out.size); (case aL => have := HL1.out; simp; omega); intro v6 w6 ho hb hg hat; rw [List.nil_append] at ho; obtain ⟨A6, c6, e6⟩ := Kd.R_slice ho; subst e6; have HQ6 := Aside0.mk ((Kd.R_reads' ho).2.2); have HC6 := Aside0.mk ((Kd.R_reads' ho).2.1); have hg6 := below_of_grown hg; have HO6 := Aside0.mk (Kd.C_below HO5.out hg6); have HB6 := Aside0.mk hb; have BK6 := Aside0.mk (blk_below BK5.out hg6); clear BK5; clear ho hb hg hat hg6 HO5 HB5) | (go_at_call 37; refine (match_at _ _ [t] _ _ l1 _ _ HMX.out _ HO6.out HC5.out HQ6.out HC6.out).mono ?_; rintro e w7 ⟨rfl, hb7⟩; have HB := Aside0.mk (below_step HB6.out hb7); have BK7 := Aside0.mk (blk_below BK6.out hb7); clear BK6; clear HB6 HO6 HC5 HQ6 HC6 hb7))
                    have hcz0 := (blk_cell BK7.out 0).trans rfl
                    have hcz1 := (blk_cell BK7.out 1).trans rfl
                    have hcz2 := (blk_cell BK7.out 2).trans rfl
                    have hfz1 := blk_frozen BK7.out 1
                    go_upto_region 28 with fail
                    have HBS := Aside0.mk (HB.out.setCell (p := ⟨gb, 1, none⟩) HGB.out (.int .i64 3))
                    have BK8 := Aside0.mk (blk_put (cs' := #[.string t.f0, .int .i64 3, .slice A2 t.f2.length c2]) BK7.out 1 (.int .i64 3) rfl)
                    obtain ⟨w8, hw8⟩ : ∃ w8, w8 = w7.setCell ⟨gb, 1, none⟩ (.int .i64 3) := ⟨_, rfl⟩
                    rw [← hw8] at HBS BK8
                    rw [← hw8]
                    clear hw8 hcz0 hcz1 hcz2 hfz1 BK7 HB hd0 hd1
                    have hcz0 := (blk_cell BK8.out 0).trans rfl
                    have hcz1 := (blk_cell BK8.out 1).trans rfl
                    have hcz2 := (blk_cell BK8.out 2).trans rfl
                    go_wp2_with (first | (go_at_call 17; refine (own_at (some ⟨w8.heap.size, 0, none⟩) 1 [(⟨t.f0, 3, t.f2⟩ : S45)] (w8.alloc (.cells #[.string t.f0, .int .i64 3, .slice A2 t.f2.length c2] 45)) (C_one w8 t.f0 3 t.f2 A2 c2 (Kd.C_below HR2.out HBS.out) HC2.out) (by simp) (by simp) (by intro x hx; simp at hx; subst hx; exact Nat.le_trans H8.out (by decide))).mono ?_; rintro e w5 ⟨A5, c5, rfl, ho5, hc5, hb5⟩; have HB5 := Aside0.mk (below_step (HBS.out.alloc HBS.out.size _) hb5); have HO5 := Aside0.mk ho5; have HC5 := Aside0.mk hc5; clear ho5 hc5 hb5) | ((with_reducible refine gate_builtin (b := .append) (xs := #[.const (.slice none 0 0), .tmp 114]) rfl ?_); (try (refine gate_guard (by rfl) ?_; dsimp only)); at_builtin; refine Kd.R_append_rows k51 (w0 := w) w.heap.size rfl (.const (.slice none 0 0)) (.tmp 114) 46 51 (.agg #[(.string ⟨#[]⟩), (.string ⟨#[]⟩)]) 32 rfl Tryd.underlying46 info51 rfl (by decide) (by omega) (.slice none 0 0) ([] : List (S51)) l1 _ _ _ (fun _ => True) (fun _ => False) rfl rfl ?aO ?aR (fun _ _ h => h) (fun _ h => h.elim) ?aF ?aB ?aS ?aL ?_; (case aR => exact Kd.C_below HR1.out HB5.out); (case aB => exact HB5.out); (case aF => exact (fun _ _ => trivial)); (case aO => exact (Kd.R_nil _ _ _ _ (fun _ => True))); (case aS => exact HB5.out.size); (case aL => have := HL1.out; simp; omega); intro v6 w6 ho hb hg hat; rw [List.nil_append] at ho; obtain ⟨A6, c6, e6⟩ := Kd.R_slice ho; subst e6; have HQ6 := Aside0.mk ((Kd.R_reads' ho).2.2); have HC6 := Aside0.mk ((Kd.R_reads' ho).2.1); have hg6 := below_of_grown hg; have HO6 := Aside0.mk (Kd.C_below HO5.out hg6); have HB6 := Aside0.mk hb; clear ho hb hg hat hg6 HO5 HB5) | (go_at_call 37; refine (match_at _ _ [(⟨t.f0, 3, t.f2⟩ : S45)] _ _ l1 _ _ HMY.out _ HO6.out HC5.out HQ6.out HC6.out).mono ?_; rintro e w7 ⟨rfl, hb7⟩; have HBE := Aside0.mk (below_step HB6.out hb7); clear HB6 HO6 HC5 HQ6 HC6 hb7))
                    go_roundg g
                    case measure => omega
                    case rel => exact ⟨i + 1, _, rfl, by go_num, by omega, by omega, ⟨HHH.out⟩, HBE⟩
                  | false =>
                    have HB := hbx
                    go_upto_region 27 with (first | (go_at_call 17; refine (own_at (some (ad.add (i * 3))) _ [t] _ (Kd.C_below HMID2.out HB.out) (by simp; omega) (by simp) (by intro x hx; simp at hx; subst hx; have := H8.out; omega)).mono ?_; rintro e w5 ⟨A5, c5, rfl, ho5, hc5, hb5⟩; have HB5 := Aside0.mk (below_step HB.out hb5); have HO5 := Aside0.mk ho5; have HC5 := Aside0.mk hc5; have BK5 := Aside0.mk (blk_below HBK.out hb5); clear ho5 hc5 HB HBK hb5) | ((with_reducible refine gate_builtin (b := .append) (xs := #[.const (.slice none 0 0), .tmp 101]) rfl ?_); (try (refine gate_guard (by rfl) ?_; dsimp only)); at_builtin; refine Kd.R_append_rows k51 (w0 := w) w.heap.size rfl (.const (.slice none 0 0)) (.tmp 101) 46 51 (.agg #[(.string ⟨#[]⟩), (.string ⟨#[]⟩)]) 32 rfl Tryd.underlying46 info51 rfl (by decide) (by omega) (.slice none 0 0) ([] : List (S51)) l1 _ _ _ (fun _ => True) (fun _ => False) rfl rfl ?aO ?aR (fun _ _ h => h) (fun _ h => h.elim) ?aF ?aB ?aS ?aL ?_; (case aR => exact Kd.C_below HR1.out HB5.out); (case aB => exact HB5.out); (case aF => exact (fun _ _ => trivial)); (case aO => exact (Kd.R_nil _ _ _ _ (fun _ => True))); (case aS => exact HB5.out.size); (case aL => have := HL1.out; simp; omega); intro v6 w6 ho hb hg hat; rw [List.nil_append] at ho; obtain ⟨A6, c6, e6⟩ := Kd.R_slice ho; subst e6; have HQ6 := Aside0.mk ((Kd.R_reads' ho).2.2); have HC6 := Aside0.mk ((Kd.R_reads' ho).2.1); have hg6 := below_of_grown hg; have HO6 := Aside0.mk (Kd.C_below HO5.out hg6); have HB6 := Aside0.mk hb; have BK6 := Aside0.mk (blk_below BK5.out hg6); clear BK5; clear ho hb hg hat hg6 HO5 HB5) | (go_at_call 37; refine (match_at _ _ [t] _ _ l1 _ _ HMX.out _ HO6.out HC5.out HQ6.out HC6.out).mono ?_; rintro e w7 ⟨rfl, hb7⟩; have HB := Aside0.mk (below_step HB6.out hb7); have BK7 := Aside0.mk (blk_below BK6.out hb7); clear BK6; clear HB6 HO6 HC5 HQ6 HC6 hb7))
                    have hcz0 := (blk_cell BK7.out 0).trans rfl
                    have hcz1 := (blk_cell BK7.out 1).trans rfl
                    have hcz2 := (blk_cell BK7.out 2).trans rfl
                    have hfz1 := blk_frozen BK7.out 1
                    go_upto_region 28 with fail
                    have HBS := Aside0.mk (HB.out.setCell (p := ⟨gb, 1, none⟩) HGB.out (.int .i64 3))
                    have BK8 := Aside0.mk (blk_put (cs' := #[.string t.f0, .int .i64 3, .slice A2 t.f2.length c2]) BK7.out 1 (.int .i64 3) rfl)
                    obtain ⟨w8, hw8⟩ : ∃ w8, w8 = w7.setCell ⟨gb, 1, none⟩ (.int .i64 3) := ⟨_, rfl⟩
                    rw [← hw8] at HBS BK8
                    rw [← hw8]
                    clear hw8 hcz0 hcz1 hcz2 hfz1 BK7 HB hd0 hd1
                    have hcz0 := (blk_cell BK8.out 0).trans rfl
                    have hcz1 := (blk_cell BK8.out 1).trans rfl
                    have hcz2 := (blk_cell BK8.out 2).trans rfl
                    go_wp2_with (first | (go_at_call 17; refine (own_at (some ⟨w8.heap.size, 0, none⟩) 1 [(⟨t.f0, 3, t.f2⟩ : S45)] (w8.alloc (.cells #[.string t.f0, .int .i64 3, .slice A2 t.f2.length c2] 45)) (C_one w8 t.f0 3 t.f2 A2 c2 (Kd.C_below HR2.out HBS.out) HC2.out) (by simp) (by simp) (by intro x hx; simp at hx; subst hx; exact Nat.le_trans H8.out (by decide))).mono ?_; rintro e w5 ⟨A5, c5, rfl, ho5, hc5, hb5⟩; have HB5 := Aside0.mk (below_step (HBS.out.alloc HBS.out.size _) hb5); have HO5 := Aside0.mk ho5; have HC5 := Aside0.mk hc5; clear ho5 hc5 hb5) | ((with_reducible refine gate_builtin (b := .append) (xs := #[.const (.slice none 0 0), .tmp 114]) rfl ?_); (try (refine gate_guard (by rfl) ?_; dsimp only)); at_builtin; refine Kd.R_append_rows k51 (w0 := w) w.heap.size rfl (.const (.slice none 0 0)) (.tmp 114) 46 51 (.agg #[(.string ⟨#[]⟩), (.string ⟨#[]⟩)]) 32 rfl Tryd.underlying46 info51 rfl (by decide) (by omega) (.slice none 0 0) ([] : List (S51)) l1 _ _ _ (fun _ => True) (fun _ => False) rfl rfl ?aO ?aR (fun _ _ h => h) (fun _ h => h.elim) ?aF ?aB ?aS ?aL ?_; (case aR => exact Kd.C_below HR1.out HB5.out); (case aB => exact HB5.out); (case aF => exact (fun _ _ => trivial)); (case aO => exact (Kd.R_nil _ _ _ _ (fun _ => True))); (case aS => exact HB5.out.size); (case aL => have := HL1.out; simp; omega); intro v6 w6 ho hb hg hat; rw [List.nil_append] at ho; obtain ⟨A6, c6, e6⟩ := Kd.R_slice ho; subst e6; have HQ6 := Aside0.mk ((Kd.R_reads' ho).2.2); have HC6 := Aside0.mk ((Kd.R_reads' ho).2.1); have hg6 := below_of_grown hg; have HO6 := Aside0.mk (Kd.C_below HO5.out hg6); have HB6 := Aside0.mk hb; clear ho hb hg hat hg6 HO5 HB5) | (go_at_call 37; refine (match_at _ _ [(⟨t.f0, 3, t.f2⟩ : S45)] _ _ l1 _ _ HMY.out _ HO6.out HC5.out HQ6.out HC6.out).mono ?_; rintro e w7 ⟨rfl, hb7⟩; have HBE := Aside0.mk (below_step HB6.out hb7); clear HB6 HO6 HC5 HQ6 HC6 hb7))
                    go_roundg g
                    case measure => omega
                    case rel => exact ⟨i + 1, _, rfl, by go_num, by omega, by omega, ⟨HHH.out⟩, HBE⟩
                · have HX := Lib.hid (show holdB l1 t = false by rw [hold_eq l1 t HPP.out, hth, hin2]; simp [hh])
                  have HPF := Lib.hid (prop_flip HPP.out 2 (by omega))
                  have HY := Lib.hid (show holdB l1 (flipT t 2) = true by rw [hold_eq l1 _ HPF.out]; show (if (2 : Int) = 0 then thereB l1 t.f0 && memB t.f2 (valS l1 t.f0) else if (2 : Int) = 1 then !(thereB l1 t.f0 && memB t.f2 (valS l1 t.f0)) else if (2 : Int) = 2 then thereB l1 t.f0 else !thereB l1 t.f0) = true; rw [hth, hin2]; rfl)
                  have HMX := Lib.hid (show mR [t] l1 = (false, 0) by rw [mR_one l1 HVR.out t HPP.out, HX.out])
                  have HMY := Lib.hid (show mR [flipT t 2] l1 = (true, 0) by rw [mR_one l1 HVR.out _ HPF.out, HY.out])
                  have HBK := BK
                  rw [hh] at HBK
                  have hd0 := (blk_cell HBK.out 0).trans rfl
                  have hd1 := (blk_cell HBK.out 1).trans rfl
                  have HH := HNX.out
                  rw [HX.out] at HH
                  have HHH := Lib.hid HH
                  clear HH hh BK hin2
                  cases b with
                  | true =>
                    have HB := hbx
                    go_upto_region 27 with (first | (go_at_call 17; refine (own_at (some (ad.add (i * 3))) _ [t] _ (Kd.C_below HMID2.out HB.out) (by simp; omega) (by simp) (by intro x hx; simp at hx; subst hx; have := H8.out; omega)).mono ?_; rintro e w5 ⟨A5, c5, rfl, ho5, hc5, hb5⟩; have HB5 := Aside0.mk (below_step HB.out hb5); have HO5 := Aside0.mk ho5; have HC5 := Aside0.mk hc5; have BK5 := Aside0.mk (blk_below HBK.out hb5); clear ho5 hc5 HB HBK hb5) | ((with_reducible refine gate_builtin (b := .append) (xs := #[.const (.slice none 0 0), .tmp 101]) rfl ?_); (try (refine gate_guard (by rfl) ?_; dsimp only)); at_builtin; refine Kd.R_append_rows k51 (w0 := w) w.heap.size rfl (.const (.slice none 0 0)) (.tmp 101) 46 51 (.agg #[(.string ⟨#[]⟩), (.string ⟨#[]⟩)]) 32 rfl Tryd.underlying46 info51 rfl (by decide) (by omega) (.slice none 0 0) ([] : List (S51)) l1 _ _ _ (fun _ => True) (fun _ => False) rfl rfl ?aO ?aR (fun _ _ h => h) (fun _ h => h.elim) ?aF ?aB ?aS ?aL ?_; (case aR => exact Kd.C_below HR1.out HB5.out); (case aB => exact HB5.out); (case aF => exact (fun _ _ => trivial)); (case aO => exact (Kd.R_nil _ _ _ _ (fun _ => True))); (case aS => exact HB5.out.size); (case aL => have := HL1.out; simp; omega); intro v6 w6 ho hb hg hat; rw [List.nil_append] at ho; obtain ⟨A6, c6, e6⟩ := Kd.R_slice ho; subst e6; have HQ6 := Aside0.mk ((Kd.R_reads' ho).2.2); have HC6 := Aside0.mk ((Kd.R_reads' ho).2.1); have hg6 := below_of_grown hg; have HO6 := Aside0.mk (Kd.C_below HO5.out hg6); have HB6 := Aside0.mk hb; have BK6 := Aside0.mk (blk_below BK5.out hg6); clear BK5; clear ho hb hg hat hg6 HO5 HB5) | (go_at_call 37; refine (match_at _ _ [t] _ _ l1 _ _ HMX.out _ HO6.out HC5.out HQ6.out HC6.out).mono ?_; rintro e w7 ⟨rfl, hb7⟩; have HB := Aside0.mk (below_step HB6.out hb7); have BK7 := Aside0.mk (blk_below BK6.out hb7); clear BK6; clear HB6 HO6 HC5 HQ6 HC6 hb7))
                    have hcz0 := (blk_cell BK7.out 0).trans rfl
                    have hcz1 := (blk_cell BK7.out 1).trans rfl
                    have hcz2 := (blk_cell BK7.out 2).trans rfl
                    have hfz1 := blk_frozen BK7.out 1
                    go_upto_region 28 with fail
                    have HBS := Aside0.mk (HB.out.setCell (p := ⟨gb, 1, none⟩) HGB.out (.int .i64 2))
                    have BK8 := Aside0.mk (blk_put (cs' := #[.string t.f0, .int .i64 2, .slice A2 t.f2.length c2]) BK7.out 1 (.int .i64 2) rfl)
                    obtain ⟨w8, hw8⟩ : ∃ w8, w8 = w7.setCell ⟨gb, 1, none⟩ (.int .i64 2) := ⟨_, rfl⟩
                    rw [← hw8] at HBS BK8
                    rw [← hw8]
                    clear hw8 hcz0 hcz1 hcz2 hfz1 BK7 HB hd0 hd1
                    have hcz0 := (blk_cell BK8.out 0).trans rfl
                    have hcz1 := (blk_cell BK8.out 1).trans rfl
                    have hcz2 := (blk_cell BK8.out 2).trans rfl
                    go_wp2_with (first | (go_at_call 17; refine (own_at (some ⟨w8.heap.size, 0, none⟩) 1 [(⟨t.f0, 2, t.f2⟩ : S45)] (w8.alloc (.cells #[.string t.f0, .int .i64 2, .slice A2 t.f2.length c2] 45)) (C_one w8 t.f0 2 t.f2 A2 c2 (Kd.C_below HR2.out HBS.out) HC2.out) (by simp) (by simp) (by intro x hx; simp at hx; subst hx; exact Nat.le_trans H8.out (by decide))).mono ?_; rintro e w5 ⟨A5, c5, rfl, ho5, hc5, hb5⟩; have HB5 := Aside0.mk (below_step (HBS.out.alloc HBS.out.size _) hb5); have HO5 := Aside0.mk ho5; have HC5 := Aside0.mk hc5; clear ho5 hc5 hb5) | ((with_reducible refine gate_builtin (b := .append) (xs := #[.const (.slice none 0 0), .tmp 114]) rfl ?_); (try (refine gate_guard (by rfl) ?_; dsimp only)); at_builtin; refine Kd.R_append_rows k51 (w0 := w) w.heap.size rfl (.const (.slice none 0 0)) (.tmp 114) 46 51 (.agg #[(.string ⟨#[]⟩), (.string ⟨#[]⟩)]) 32 rfl Tryd.underlying46 info51 rfl (by decide) (by omega) (.slice none 0 0) ([] : List (S51)) l1 _ _ _ (fun _ => True) (fun _ => False) rfl rfl ?aO ?aR (fun _ _ h => h) (fun _ h => h.elim) ?aF ?aB ?aS ?aL ?_; (case aR => exact Kd.C_below HR1.out HB5.out); (case aB => exact HB5.out); (case aF => exact (fun _ _ => trivial)); (case aO => exact (Kd.R_nil _ _ _ _ (fun _ => True))); (case aS => exact HB5.out.size); (case aL => have := HL1.out; simp; omega); intro v6 w6 ho hb hg hat; rw [List.nil_append] at ho; obtain ⟨A6, c6, e6⟩ := Kd.R_slice ho; subst e6; have HQ6 := Aside0.mk ((Kd.R_reads' ho).2.2); have HC6 := Aside0.mk ((Kd.R_reads' ho).2.1); have hg6 := below_of_grown hg; have HO6 := Aside0.mk (Kd.C_below HO5.out hg6); have HB6 := Aside0.mk hb; clear ho hb hg hat hg6 HO5 HB5) | (go_at_call 37; refine (match_at _ _ [(⟨t.f0, 2, t.f2⟩ : S45)] _ _ l1 _ _ HMY.out _ HO6.out HC5.out HQ6.out HC6.out).mono ?_; rintro e w7 ⟨rfl, hb7⟩; have HBE := Aside0.mk (below_step HB6.out hb7); clear HB6 HO6 HC5 HQ6 HC6 hb7))
                    go_roundg g
                    case measure => omega
                    case rel => exact ⟨i + 1, _, rfl, by go_num, by omega, by omega, ⟨HHH.out⟩, HBE⟩
                  | false =>
                    have HB := hbx
                    go_upto_region 27 with (first | (go_at_call 17; refine (own_at (some (ad.add (i * 3))) _ [t] _ (Kd.C_below HMID2.out HB.out) (by simp; omega) (by simp) (by intro x hx; simp at hx; subst hx; have := H8.out; omega)).mono ?_; rintro e w5 ⟨A5, c5, rfl, ho5, hc5, hb5⟩; have HB5 := Aside0.mk (below_step HB.out hb5); have HO5 := Aside0.mk ho5; have HC5 := Aside0.mk hc5; have BK5 := Aside0.mk (blk_below HBK.out hb5); clear ho5 hc5 HB HBK hb5) | ((with_reducible refine gate_builtin (b := .append) (xs := #[.const (.slice none 0 0), .tmp 101]) rfl ?_); (try (refine gate_guard (by rfl) ?_; dsimp only)); at_builtin; refine Kd.R_append_rows k51 (w0 := w) w.heap.size rfl (.const (.slice none 0 0)) (.tmp 101) 46 51 (.agg #[(.string ⟨#[]⟩), (.string ⟨#[]⟩)]) 32 rfl Tryd.underlying46 info51 rfl (by decide) (by omega) (.slice none 0 0) ([] : List (S51)) l1 _ _ _ (fun _ => True) (fun _ => False) rfl rfl ?aO ?aR (fun _ _ h => h) (fun _ h => h.elim) ?aF ?aB ?aS ?aL ?_; (case aR => exact Kd.C_below HR1.out HB5.out); (case aB => exact HB5.out); (case aF => exact (fun _ _ => trivial)); (case aO => exact (Kd.R_nil _ _ _ _ (fun _ => True))); (case aS => exact HB5.out.size); (case aL => have := HL1.out; simp; omega); intro v6 w6 ho hb hg hat; rw [List.nil_append] at ho; obtain ⟨A6, c6, e6⟩ := Kd.R_slice ho; subst e6; have HQ6 := Aside0.mk ((Kd.R_reads' ho).2.2); have HC6 := Aside0.mk ((Kd.R_reads' ho).2.1); have hg6 := below_of_grown hg; have HO6 := Aside0.mk (Kd.C_below HO5.out hg6); have HB6 := Aside0.mk hb; have BK6 := Aside0.mk (blk_below BK5.out hg6); clear BK5; clear ho hb hg hat hg6 HO5 HB5) | (go_at_call 37; refine (match_at _ _ [t] _ _ l1 _ _ HMX.out _ HO6.out HC5.out HQ6.out HC6.out).mono ?_; rintro e w7 ⟨rfl, hb7⟩; have HB := Aside0.mk (below_step HB6.out hb7); have BK7 := Aside0.mk (blk_below BK6.out hb7); clear BK6; clear HB6 HO6 HC5 HQ6 HC6 hb7))
                    have hcz0 := (blk_cell BK7.out 0).trans rfl
                    have hcz1 := (blk_cell BK7.out 1).trans rfl
                    have hcz2 := (blk_cell BK7.out 2).trans rfl
                    have hfz1 := blk_frozen BK7.out 1
                    go_upto_region 28 with fail
                    have HBS := Aside0.mk (HB.out.setCell (p := ⟨gb, 1, none⟩) HGB.out (.int .i64 2))
                    have BK8 := Aside0.mk (blk_put (cs' := #[.string t.f0, .int .i64 2, .slice A2 t.f2.length c2]) BK7.out 1 (.int .i64 2) rfl)
                    obtain ⟨w8, hw8⟩ : ∃ w8, w8 = w7.setCell ⟨gb, 1, none⟩ (.int .i64 2) := ⟨_, rfl⟩
                    rw [← hw8] at HBS BK8
                    rw [← hw8]
                    clear hw8 hcz0 hcz1 hcz2 hfz1 BK7 HB hd0 hd1
                    have hcz0 := (blk_cell BK8.out 0).trans rfl
                    have hcz1 := (blk_cell BK8.out 1).trans rfl
                    have hcz2 := (blk_cell BK8.out 2).trans rfl
                    go_wp2_with (first | (go_at_call 17; refine (own_at (some ⟨w8.heap.size, 0, none⟩) 1 [(⟨t.f0, 2, t.f2⟩ : S45)] (w8.alloc (.cells #[.string t.f0, .int .i64 2, .slice A2 t.f2.length c2] 45)) (C_one w8 t.f0 2 t.f2 A2 c2 (Kd.C_below HR2.out HBS.out) HC2.out) (by simp) (by simp) (by intro x hx; simp at hx; subst hx; exact Nat.le_trans H8.out (by decide))).mono ?_; rintro e w5 ⟨A5, c5, rfl, ho5, hc5, hb5⟩; have HB5 := Aside0.mk (below_step (HBS.out.alloc HBS.out.size _) hb5); have HO5 := Aside0.mk ho5; have HC5 := Aside0.mk hc5; clear ho5 hc5 hb5) | ((with_reducible refine gate_builtin (b := .append) (xs := #[.const (.slice none 0 0), .tmp 114]) rfl ?_); (try (refine gate_guard (by rfl) ?_; dsimp only)); at_builtin; refine Kd.R_append_rows k51 (w0 := w) w.heap.size rfl (.const (.slice none 0 0)) (.tmp 114) 46 51 (.agg #[(.string ⟨#[]⟩), (.string ⟨#[]⟩)]) 32 rfl Tryd.underlying46 info51 rfl (by decide) (by omega) (.slice none 0 0) ([] : List (S51)) l1 _ _ _ (fun _ => True) (fun _ => False) rfl rfl ?aO ?aR (fun _ _ h => h) (fun _ h => h.elim) ?aF ?aB ?aS ?aL ?_; (case aR => exact Kd.C_below HR1.out HB5.out); (case aB => exact HB5.out); (case aF => exact (fun _ _ => trivial)); (case aO => exact (Kd.R_nil _ _ _ _ (fun _ => True))); (case aS => exact HB5.out.size); (case aL => have := HL1.out; simp; omega); intro v6 w6 ho hb hg hat; rw [List.nil_append] at ho; obtain ⟨A6, c6, e6⟩ := Kd.R_slice ho; subst e6; have HQ6 := Aside0.mk ((Kd.R_reads' ho).2.2); have HC6 := Aside0.mk ((Kd.R_reads' ho).2.1); have hg6 := below_of_grown hg; have HO6 := Aside0.mk (Kd.C_below HO5.out hg6); have HB6 := Aside0.mk hb; clear ho hb hg hat hg6 HO5 HB5) | (go_at_call 37; refine (match_at _ _ [(⟨t.f0, 2, t.f2⟩ : S45)] _ _ l1 _ _ HMY.out _ HO6.out HC5.out HQ6.out HC6.out).mono ?_; rintro e w7 ⟨rfl, hb7⟩; have HBE := Aside0.mk (below_step HB6.out hb7); clear HB6 HO6 HC5 HQ6 HC6 hb7))
                    go_roundg g
                    case measure => omega
                    case rel => exact ⟨i + 1, _, rfl, by go_num, by omega, by omega, ⟨HHH.out⟩, HBE⟩
                · have HX := Lib.hid (show holdB l1 t = false by rw [hold_eq l1 t HPP.out, hth, hin2]; simp [hh])
                  have HPF := Lib.hid (prop_flip HPP.out 1 (by omega))
                  have HY := Lib.hid (show holdB l1 (flipT t 1) = true by rw [hold_eq l1 _ HPF.out]; show (if (1 : Int) = 0 then thereB l1 t.f0 && memB t.f2 (valS l1 t.f0) else if (1 : Int) = 1 then !(thereB l1 t.f0 && memB t.f2 (valS l1 t.f0)) else if (1 : Int) = 2 then thereB l1 t.f0 else !thereB l1 t.f0) = true; rw [hth, hin2]; rfl)
                  have HMX := Lib.hid (show mR [t] l1 = (false, 0) by rw [mR_one l1 HVR.out t HPP.out, HX.out])
                  have HMY := Lib.hid (show mR [flipT t 1] l1 = (true, 0) by rw [mR_one l1 HVR.out _ HPF.out, HY.out])
                  have HBK := BK
                  rw [hh] at HBK
                  have hd0 := (blk_cell HBK.out 0).trans rfl
                  have hd1 := (blk_cell HBK.out 1).trans rfl
                  have HH := HNX.out
                  rw [HX.out] at HH
                  have HHH := Lib.hid HH
                  clear HH hh BK hin2
                  cases b with
                  | true =>
                    have HB := hbx
                    go_upto_region 27 with (first | (go_at_call 17; refine (own_at (some (ad.add (i * 3))) _ [t] _ (Kd.C_below HMID2.out HB.out) (by simp; omega) (by simp) (by intro x hx; simp at hx; subst hx; have := H8.out; omega)).mono ?_; rintro e w5 ⟨A5, c5, rfl, ho5, hc5, hb5⟩; have HB5 := Aside0.mk (below_step HB.out hb5); have HO5 := Aside0.mk ho5; have HC5 := Aside0.mk hc5; have BK5 := Aside0.mk (blk_below HBK.out hb5); clear ho5 hc5 HB HBK hb5) | ((with_reducible refine gate_builtin (b := .append) (xs := #[.const (.slice none 0 0), .tmp 101]) rfl ?_); (try (refine gate_guard (by rfl) ?_; dsimp only)); at_builtin; refine Kd.R_append_rows k51 (w0 := w) w.heap.size rfl (.const (.slice none 0 0)) (.tmp 101) 46 51 (.agg #[(.string ⟨#[]⟩), (.string ⟨#[]⟩)]) 32 rfl Tryd.underlying46 info51 rfl (by decide) (by omega) (.slice none 0 0) ([] : List (S51)) l1 _ _ _ (fun _ => True) (fun _ => False) rfl rfl ?aO ?aR (fun _ _ h => h) (fun _ h => h.elim) ?aF ?aB ?aS ?aL ?_; (case aR => exact Kd.C_below HR1.out HB5.out); (case aB => exact HB5.out); (case aF => exact (fun _ _ => trivial)); (case aO => exact (Kd.R_nil _ _ _ _ (fun _ => True))); (case aS => exact HB5.out.size); (case aL => have := HL1.out; simp; omega); intro v6 w6 ho hb hg hat; rw [List.nil_append] at ho; obtain ⟨A6, c6, e6⟩ := Kd.R_slice ho; subst e6; have HQ6 := Aside0.mk ((Kd.R_reads' ho).2.2); have HC6 := Aside0.mk ((Kd.R_reads' ho).2.1); have hg6 := below_of_grown hg; have HO6 := Aside0.mk (Kd.C_below HO5.out hg6); have HB6 := Aside0.mk hb; have BK6 := Aside0.mk (blk_below BK5.out hg6); clear BK5; clear ho hb hg hat hg6 HO5 HB5) | (go_at_call 37; refine (match_at _ _ [t] _ _ l1 _ _ HMX.out _ HO6.out HC5.out HQ6.out HC6.out).mono ?_; rintro e w7 ⟨rfl, hb7⟩; have HB := Aside0.mk (below_step HB6.out hb7); have BK7 := Aside0.mk (blk_below BK6.out hb7); clear BK6; clear HB6 HO6 HC5 HQ6 HC6 hb7))
                    have hcz0 := (blk_cell BK7.out 0).trans rfl
                    have hcz1 := (blk_cell BK7.out 1).trans rfl
                    have hcz2 := (blk_cell BK7.out 2).trans rfl
                    have hfz1 := blk_frozen BK7.out 1
                    go_upto_region 28 with fail
                    have HBS := Aside0.mk (HB.out.setCell (p := ⟨gb, 1, none⟩) HGB.out (.int .i64 1))
                    have BK8 := Aside0.mk (blk_put (cs' := #[.string t.f0, .int .i64 1, .slice A2 t.f2.length c2]) BK7.out 1 (.int .i64 1) rfl)
                    obtain ⟨w8, hw8⟩ : ∃ w8, w8 = w7.setCell ⟨gb, 1, none⟩ (.int .i64 1) := ⟨_, rfl⟩
                    rw [← hw8] at HBS BK8
                    rw [← hw8]
                    clear hw8 hcz0 hcz1 hcz2 hfz1 BK7 HB hd0 hd1
                    have hcz0 := (blk_cell BK8.out 0).trans rfl
                    have hcz1 := (blk_cell BK8.out 1).trans rfl
                    have hcz2 := (blk_cell BK8.out 2).trans rfl
                    go_wp2_with (first | (go_at_call 17; refine (own_at (some ⟨w8.heap.size, 0, none⟩) 1 [(⟨t.f0, 1, t.f2⟩ : S45)] (w8.alloc (.cells #[.string t.f0, .int .i64 1, .slice A2 t.f2.length c2] 45)) (C_one w8 t.f0 1 t.f2 A2 c2 (Kd.C_below HR2.out HBS.out) HC2.out) (by simp) (by simp) (by intro x hx; simp at hx; subst hx; exact Nat.le_trans H8.out (by decide))).mono ?_; rintro e w5 ⟨A5, c5, rfl, ho5, hc5, hb5⟩; have HB5 := Aside0.mk (below_step (HBS.out.alloc HBS.out.size _) hb5); have HO5 := Aside0.mk ho5; have HC5 := Aside0.mk hc5; clear ho5 hc5 hb5) | ((with_reducible refine gate_builtin (b := .append) (xs := #[.const (.slice none 0 0), .tmp 114]) rfl ?_); (try (refine gate_guard (by rfl) ?_; dsimp only)); at_builtin; refine Kd.R_append_rows k51 (w0 := w) w.heap.size rfl (.const (.slice none 0 0)) (.tmp 114) 46 51 (.agg #[(.string ⟨#[]⟩), (.string ⟨#[]⟩)]) 32 rfl Tryd.underlying46 info51 rfl (by decide) (by omega) (.slice none 0 0) ([] : List (S51)) l1 _ _ _ (fun _ => True) (fun _ => False) rfl rfl ?aO ?aR (fun _ _ h => h) (fun _ h => h.elim) ?aF ?aB ?aS ?aL ?_; (case aR => exact Kd.C_below HR1.out HB5.out); (case aB => exact HB5.out); (case aF => exact (fun _ _ => trivial)); (case aO => exact (Kd.R_nil _ _ _ _ (fun _ => True))); (case aS => exact HB5.out.size); (case aL => have := HL1.out; simp; omega); intro v6 w6 ho hb hg hat; rw [List.nil_append] at ho; obtain ⟨A6, c6, e6⟩ := Kd.R_slice ho; subst e6; have HQ6 := Aside0.mk ((Kd.R_reads' ho).2.2); have HC6 := Aside0.mk ((Kd.R_reads' ho).2.1); have hg6 := below_of_grown hg; have HO6 := Aside0.mk (Kd.C_below HO5.out hg6); have HB6 := Aside0.mk hb; clear ho hb hg hat hg6 HO5 HB5) | (go_at_call 37; refine (match_at _ _ [(⟨t.f0, 1, t.f2⟩ : S45)] _ _ l1 _ _ HMY.out _ HO6.out HC5.out HQ6.out HC6.out).mono ?_; rintro e w7 ⟨rfl, hb7⟩; have HBE := Aside0.mk (below_step HB6.out hb7); clear HB6 HO6 HC5 HQ6 HC6 hb7))
                    go_roundg g
                    case measure => omega
                    case rel => exact ⟨i + 1, _, rfl, by go_num, by omega, by omega, ⟨HHH.out⟩, HBE⟩
                  | false =>
                    have HB := hbx
                    go_upto_region 27 with (first | (go_at_call 17; refine (own_at (some (ad.add (i * 3))) _ [t] _ (Kd.C_below HMID2.out HB.out) (by simp; omega) (by simp) (by intro x hx; simp at hx; subst hx; have := H8.out; omega)).mono ?_; rintro e w5 ⟨A5, c5, rfl, ho5, hc5, hb5⟩; have HB5 := Aside0.mk (below_step HB.out hb5); have HO5 := Aside0.mk ho5; have HC5 := Aside0.mk hc5; have BK5 := Aside0.mk (blk_below HBK.out hb5); clear ho5 hc5 HB HBK hb5) | ((with_reducible refine gate_builtin (b := .append) (xs := #[.const (.slice none 0 0), .tmp 101]) rfl ?_); (try (refine gate_guard (by rfl) ?_; dsimp only)); at_builtin; refine Kd.R_append_rows k51 (w0 := w) w.heap.size rfl (.const (.slice none 0 0)) (.tmp 101) 46 51 (.agg #[(.string ⟨#[]⟩), (.string ⟨#[]⟩)]) 32 rfl Tryd.underlying46 info51 rfl (by decide) (by omega) (.slice none 0 0) ([] : List (S51)) l1 _ _ _ (fun _ => True) (fun _ => False) rfl rfl ?aO ?aR (fun _ _ h => h) (fun _ h => h.elim) ?aF ?aB ?aS ?aL ?_; (case aR => exact Kd.C_below HR1.out HB5.out); (case aB => exact HB5.out); (case aF => exact (fun _ _ => trivial)); (case aO => exact (Kd.R_nil _ _ _ _ (fun _ => True))); (case aS => exact HB5.out.size); (case aL => have := HL1.out; simp; omega); intro v6 w6 ho hb hg hat; rw [List.nil_append] at ho; obtain ⟨A6, c6, e6⟩ := Kd.R_slice ho; subst e6; have HQ6 := Aside0.mk ((Kd.R_reads' ho).2.2); have HC6 := Aside0.mk ((Kd.R_reads' ho).2.1); have hg6 := below_of_grown hg; have HO6 := Aside0.mk (Kd.C_below HO5.out hg6); have HB6 := Aside0.mk hb; have BK6 := Aside0.mk (blk_below BK5.out hg6); clear BK5; clear ho hb hg hat hg6 HO5 HB5) | (go_at_call 37; refine (match_at _ _ [t] _ _ l1 _ _ HMX.out _ HO6.out HC5.out HQ6.out HC6.out).mono ?_; rintro e w7 ⟨rfl, hb7⟩; have HB := Aside0.mk (below_step HB6.out hb7); have BK7 := Aside0.mk (blk_below BK6.out hb7); clear BK6; clear HB6 HO6 HC5 HQ6 HC6 hb7))
                    have hcz0 := (blk_cell BK7.out 0).trans rfl
                    have hcz1 := (blk_cell BK7.out 1).trans rfl
                    have hcz2 := (blk_cell BK7.out 2).trans rfl
                    have hfz1 := blk_frozen BK7.out 1
                    go_upto_region 28 with fail
                    have HBS := Aside0.mk (HB.out.setCell (p := ⟨gb, 1, none⟩) HGB.out (.int .i64 1))
                    have BK8 := Aside0.mk (blk_put (cs' := #[.string t.f0, .int .i64 1, .slice A2 t.f2.length c2]) BK7.out 1 (.int .i64 1) rfl)
                    obtain ⟨w8, hw8⟩ : ∃ w8, w8 = w7.setCell ⟨gb, 1, none⟩ (.int .i64 1) := ⟨_, rfl⟩
                    rw [← hw8] at HBS BK8
                    rw [← hw8]
                    clear hw8 hcz0 hcz1 hcz2 hfz1 BK7 HB hd0 hd1
                    have hcz0 := (blk_cell BK8.out 0).trans rfl
                    have hcz1 := (blk_cell BK8.out 1).trans rfl
                    have hcz2 := (blk_cell BK8.out 2).trans rfl
                    go_wp2_with (first | (go_at_call 17; refine (own_at (some ⟨w8.heap.size, 0, none⟩) 1 [(⟨t.f0, 1, t.f2⟩ : S45)] (w8.alloc (.cells #[.string t.f0, .int .i64 1, .slice A2 t.f2.length c2] 45)) (C_one w8 t.f0 1 t.f2 A2 c2 (Kd.C_below HR2.out HBS.out) HC2.out) (by simp) (by simp) (by intro x hx; simp at hx; subst hx; exact Nat.le_trans H8.out (by decide))).mono ?_; rintro e w5 ⟨A5, c5, rfl, ho5, hc5, hb5⟩; have HB5 := Aside0.mk (below_step (HBS.out.alloc HBS.out.size _) hb5); have HO5 := Aside0.mk ho5; have HC5 := Aside0.mk hc5; clear ho5 hc5 hb5) | ((with_reducible refine gate_builtin (b := .append) (xs := #[.const (.slice none 0 0), .tmp 114]) rfl ?_); (try (refine gate_guard (by rfl) ?_; dsimp only)); at_builtin; refine Kd.R_append_rows k51 (w0 := w) w.heap.size rfl (.const (.slice none 0 0)) (.tmp 114) 46 51 (.agg #[(.string ⟨#[]⟩), (.string ⟨#[]⟩)]) 32 rfl Tryd.underlying46 info51 rfl (by decide) (by omega) (.slice none 0 0) ([] : List (S51)) l1 _ _ _ (fun _ => True) (fun _ => False) rfl rfl ?aO ?aR (fun _ _ h => h) (fun _ h => h.elim) ?aF ?aB ?aS ?aL ?_; (case aR => exact Kd.C_below HR1.out HB5.out); (case aB => exact HB5.out); (case aF => exact (fun _ _ => trivial)); (case aO => exact (Kd.R_nil _ _ _ _ (fun _ => True))); (case aS => exact HB5.out.size); (case aL => have := HL1.out; simp; omega); intro v6 w6 ho hb hg hat; rw [List.nil_append] at ho; obtain ⟨A6, c6, e6⟩ := Kd.R_slice ho; subst e6; have HQ6 := Aside0.mk ((Kd.R_reads' ho).2.2); have HC6 := Aside0.mk ((Kd.R_reads' ho).2.1); have hg6 := below_of_grown hg; have HO6 := Aside0.mk (Kd.C_below HO5.out hg6); have HB6 := Aside0.mk hb; clear ho hb hg hat hg6 HO5 HB5) | (go_at_call 37; refine (match_at _ _ [(⟨t.f0, 1, t.f2⟩ : S45)] _ _ l1 _ _ HMY.out _ HO6.out HC5.out HQ6.out HC6.out).mono ?_; rintro e w7 ⟨rfl, hb7⟩; have HBE := Aside0.mk (below_step HB6.out hb7); clear HB6 HO6 HC5 HQ6 HC6 hb7))
                    go_roundg g
                    case measure => omega
                    case rel => exact ⟨i + 1, _, rfl, by go_num, by omega, by omega, ⟨HHH.out⟩, HBE⟩
                · have HX := Lib.hid (show holdB l1 t = true by rw [hold_eq l1 t HPP.out, hth, hin2]; simp [hh])
                  have HPF := Lib.hid (prop_flip HPP.out 0 (by omega))
                  have HY := Lib.hid (show holdB l1 (flipT t 0) = false by rw [hold_eq l1 _ HPF.out]; show (if (0 : Int) = 0 then thereB l1 t.f0 && memB t.f2 (valS l1 t.f0) else if (0 : Int) = 1 then !(thereB l1 t.f0 && memB t.f2 (valS l1 t.f0)) else if (0 : Int) = 2 then thereB l1 t.f0 else !thereB l1 t.f0) = false; rw [hth, hin2]; rfl)
                  have HMX := Lib.hid (show mR [t] l1 = (true, 0) by rw [mR_one l1 HVR.out t HPP.out, HX.out])
                  have HMY := Lib.hid (show mR [flipT t 0] l1 = (false, 0) by rw [mR_one l1 HVR.out _ HPF.out, HY.out])
                  have HBK := BK
                  rw [hh] at HBK
                  have hd0 := (blk_cell HBK.out 0).trans rfl
                  have hd1 := (blk_cell HBK.out 1).trans rfl
                  have HH := HNX.out
                  rw [HX.out] at HH
                  have HHH := Lib.hid HH
                  clear HH hh BK hin2
                  cases b with
                  | true =>
                    have HB := hbx
                    go_upto_region 27 with (first | (go_at_call 17; refine (own_at (some (ad.add (i * 3))) _ [t] _ (Kd.C_below HMID2.out HB.out) (by simp; omega) (by simp) (by intro x hx; simp at hx; subst hx; have := H8.out; omega)).mono ?_; rintro e w5 ⟨A5, c5, rfl, ho5, hc5, hb5⟩; have HB5 := Aside0.mk (below_step HB.out hb5); have HO5 := Aside0.mk ho5; have HC5 := Aside0.mk hc5; have BK5 := Aside0.mk (blk_below HBK.out hb5); clear ho5 hc5 HB HBK hb5) | ((with_reducible refine gate_builtin (b := .append) (xs := #[.const (.slice none 0 0), .tmp 101]) rfl ?_); (try (refine gate_guard (by rfl) ?_; dsimp only)); at_builtin; refine Kd.R_append_rows k51 (w0 := w) w.heap.size rfl (.const (.slice none 0 0)) (.tmp 101) 46 51 (.agg #[(.string ⟨#[]⟩), (.string ⟨#[]⟩)]) 32 rfl Tryd.underlying46 info51 rfl (by decide) (by omega) (.slice none 0 0) ([] : List (S51)) l1 _ _ _ (fun _ => True) (fun _ => False) rfl rfl ?aO ?aR (fun _ _ h => h) (fun _ h => h.elim) ?aF ?aB ?aS ?aL ?_; (case aR => exact Kd.C_below HR1.out HB5.out); (case aB => exact HB5.out); (case aF => exact (fun _ _ => trivial)); (case aO => exact (Kd.R_nil _ _ _ _ (fun _ => True))); (case aS => exact HB5.out.size); (case aL => have := HL1.out; simp; omega); intro v6 w6 ho hb hg hat; rw [List.nil_append] at ho; obtain ⟨A6, c6, e6⟩ := Kd.R_slice ho; subst e6; have HQ6 := Aside0.mk ((Kd.R_reads' ho).2.2); have HC6 := Aside0.mk ((Kd.R_reads' ho).2.1); have hg6 := below_of_grown hg; have HO6 := Aside0.mk (Kd.C_below HO5.out hg6); have HB6 := Aside0.mk hb; have BK6 := Aside0.mk (blk_below BK5.out hg6); clear BK5; clear ho hb hg hat hg6 HO5 HB5) | (go_at_call 37; refine (match_at _ _ [t] _ _ l1 _ _ HMX.out _ HO6.out HC5.out HQ6.out HC6.out).mono ?_; rintro e w7 ⟨rfl, hb7⟩; have HB := Aside0.mk (below_step HB6.out hb7); have BK7 := Aside0.mk (blk_below BK6.out hb7); clear BK6; clear HB6 HO6 HC5 HQ6 HC6 hb7))
                    have hcz0 := (blk_cell BK7.out 0).trans rfl
                    have hcz1 := (blk_cell BK7.out 1).trans rfl
                    have hcz2 := (blk_cell BK7.out 2).trans rfl
                    have hfz1 := blk_frozen BK7.out 1
                    go_upto_region 28 with fail
                    have HBS := Aside0.mk (HB.out.setCell (p := ⟨gb, 1, none⟩) HGB.out (.int .i64 0))
                    have BK8 := Aside0.mk (blk_put (cs' := #[.string t.f0, .int .i64 0, .slice A2 t.f2.length c2]) BK7.out 1 (.int .i64 0) rfl)
                    obtain ⟨w8, hw8⟩ : ∃ w8, w8 = w7.setCell ⟨gb, 1, none⟩ (.int .i64 0) := ⟨_, rfl⟩
                    rw [← hw8] at HBS BK8
                    rw [← hw8]
                    clear hw8 hcz0 hcz1 hcz2 hfz1 BK7 HB hd0 hd1
                    have hcz0 := (blk_cell BK8.out 0).trans rfl
                    have hcz1 := (blk_cell BK8.out 1).trans rfl
                    have hcz2 := (blk_cell BK8.out 2).trans rfl
                    go_wp2_with (first | (go_at_call 17; refine (own_at (some ⟨w8.heap.size, 0, none⟩) 1 [(⟨t.f0, 0, t.f2⟩ : S45)] (w8.alloc (.cells #[.string t.f0, .int .i64 0, .slice A2 t.f2.length c2] 45)) (C_one w8 t.f0 0 t.f2 A2 c2 (Kd.C_below HR2.out HBS.out) HC2.out) (by simp) (by simp) (by intro x hx; simp at hx; subst hx; exact Nat.le_trans H8.out (by decide))).mono ?_; rintro e w5 ⟨A5, c5, rfl, ho5, hc5, hb5⟩; have HB5 := Aside0.mk (below_step (HBS.out.alloc HBS.out.size _) hb5); have HO5 := Aside0.mk ho5; have HC5 := Aside0.mk hc5; clear ho5 hc5 hb5) | ((with_reducible refine gate_builtin (b := .append) (xs := #[.const (.slice none 0 0), .tmp 114]) rfl ?_); (try (refine gate_guard (by rfl) ?_; dsimp only)); at_builtin; refine Kd.R_append_rows k51 (w0 := w) w.heap.size rfl (.const (.slice none 0 0)) (.tmp 114) 46 51 (.agg #[(.string ⟨#[]⟩), (.string ⟨#[]⟩)]) 32 rfl Tryd.underlying46 info51 rfl (by decide) (by omega) (.slice none 0 0) ([] : List (S51)) l1 _ _ _ (fun _ => True) (fun _ => False) rfl rfl ?aO ?aR (fun _ _ h => h) (fun _ h => h.elim) ?aF ?aB ?aS ?aL ?_; (case aR => exact Kd.C_below HR1.out HB5.out); (case aB => exact HB5.out); (case aF => exact (fun _ _ => trivial)); (case aO => exact (Kd.R_nil _ _ _ _ (fun _ => True))); (case aS => exact HB5.out.size); (case aL => have := HL1.out; simp; omega); intro v6 w6 ho hb hg hat; rw [List.nil_append] at ho; obtain ⟨A6, c6, e6⟩ := Kd.R_slice ho; subst e6; have HQ6 := Aside0.mk ((Kd.R_reads' ho).2.2); have HC6 := Aside0.mk ((Kd.R_reads' ho).2.1); have hg6 := below_of_grown hg; have HO6 := Aside0.mk (Kd.C_below HO5.out hg6); have HB6 := Aside0.mk hb; clear ho hb hg hat hg6 HO5 HB5) | (go_at_call 37; refine (match_at _ _ [(⟨t.f0, 0, t.f2⟩ : S45)] _ _ l1 _ _ HMY.out _ HO6.out HC5.out HQ6.out HC6.out).mono ?_; rintro e w7 ⟨rfl, hb7⟩; have HBE := Aside0.mk (below_step HB6.out hb7); clear HB6 HO6 HC5 HQ6 HC6 hb7))
                    go_roundg g
                    case measure => omega
                    case rel => exact ⟨i + 1, _, rfl, by go_num, by omega, by omega, ⟨HHH.out⟩, HBE⟩
                  | false =>
                    have HB := hbx
                    go_upto_region 27 with (first | (go_at_call 17; refine (own_at (some (ad.add (i * 3))) _ [t] _ (Kd.C_below HMID2.out HB.out) (by simp; omega) (by simp) (by intro x hx; simp at hx; subst hx; have := H8.out; omega)).mono ?_; rintro e w5 ⟨A5, c5, rfl, ho5, hc5, hb5⟩; have HB5 := Aside0.mk (below_step HB.out hb5); have HO5 := Aside0.mk ho5; have HC5 := Aside0.mk hc5; have BK5 := Aside0.mk (blk_below HBK.out hb5); clear ho5 hc5 HB HBK hb5) | ((with_reducible refine gate_builtin (b := .append) (xs := #[.const (.slice none 0 0), .tmp 101]) rfl ?_); (try (refine gate_guard (by rfl) ?_; dsimp only)); at_builtin; refine Kd.R_append_rows k51 (w0 := w) w.heap.size rfl (.const (.slice none 0 0)) (.tmp 101) 46 51 (.agg #[(.string ⟨#[]⟩), (.string ⟨#[]⟩)]) 32 rfl Tryd.underlying46 info51 rfl (by decide) (by omega) (.slice none 0 0) ([] : List (S51)) l1 _ _ _ (fun _ => True) (fun _ => False) rfl rfl ?aO ?aR (fun _ _ h => h) (fun _ h => h.elim) ?aF ?aB ?aS ?aL ?_; (case aR => exact Kd.C_below HR1.out HB5.out); (case aB => exact HB5.out); (case aF => exact (fun _ _ => trivial)); (case aO => exact (Kd.R_nil _ _ _ _ (fun _ => True))); (case aS => exact HB5.out.size); (case aL => have := HL1.out; simp; omega); intro v6 w6 ho hb hg hat; rw [List.nil_append] at ho; obtain ⟨A6, c6, e6⟩ := Kd.R_slice ho; subst e6; have HQ6 := Aside0.mk ((Kd.R_reads' ho).2.2); have HC6 := Aside0.mk ((Kd.R_reads' ho).2.1); have hg6 := below_of_grown hg; have HO6 := Aside0.mk (Kd.C_below HO5.out hg6); have HB6 := Aside0.mk hb; have BK6 := Aside0.mk (blk_below BK5.out hg6); clear BK5; clear ho hb hg hat hg6 HO5 HB5) | (go_at_call 37; refine (match_at _ _ [t] _ _ l1 _ _ HMX.out _ HO6.out HC5.out HQ6.out HC6.out).mono ?_; rintro e w7 ⟨rfl, hb7⟩; have HB := Aside0.mk (below_step HB6.out hb7); have BK7 := Aside0.mk (blk_below BK6.out hb7); clear BK6; clear HB6 HO6 HC5 HQ6 HC6 hb7))
                    have hcz0 := (blk_cell BK7.out 0).trans rfl
                    have hcz1 := (blk_cell BK7.out 1).trans rfl
                    have hcz2 := (blk_cell BK7.out 2).trans rfl
                    have hfz1 := blk_frozen BK7.out 1
                    go_upto_region 28 with fail
                    have HBS := Aside0.mk (HB.out.setCell (p := ⟨gb, 1, none⟩) HGB.out (.int .i64 0))
                    have BK8 := Aside0.mk (blk_put (cs' := #[.string t.f0, .int .i64 0, .slice A2 t.f2.length c2]) BK7.out 1 (.int .i64 0) rfl)
                    obtain ⟨w8, hw8⟩ : ∃ w8, w8 = w7.setCell ⟨gb, 1, none⟩ (.int .i64 0) := ⟨_, rfl⟩
                    rw [← hw8] at HBS BK8
                    rw [← hw8]
                    clear hw8 hcz0 hcz1 hcz2 hfz1 BK7 HB hd0 hd1
                    have hcz0 := (blk_cell BK8.out 0).trans rfl
                    have hcz1 := (blk_cell BK8.out 1).trans rfl
                    have hcz2 := (blk_cell BK8.out 2).trans rfl
                    go_wp2_with (first | (go_at_call 17; refine (own_at (some ⟨w8.heap.size, 0, none⟩) 1 [(⟨t.f0, 0, t.f2⟩ : S45)] (w8.alloc (.cells #[.string t.f0, .int .i64 0, .slice A2 t.f2.length c2] 45)) (C_one w8 t.f0 0 t.f2 A2 c2 (Kd.C_below HR2.out HBS.out) HC2.out) (by simp) (by simp) (by intro x hx; simp at hx; subst hx; exact Nat.le_trans H8.out (by decide))).mono ?_; rintro e w5 ⟨A5, c5, rfl, ho5, hc5, hb5⟩; have HB5 := Aside0.mk (below_step (HBS.out.alloc HBS.out.size _) hb5); have HO5 := Aside0.mk ho5; have HC5 := Aside0.mk hc5; clear ho5 hc5 hb5) | ((with_reducible refine gate_builtin (b := .append) (xs := #[.const (.slice none 0 0), .tmp 114]) rfl ?_); (try (refine gate_guard (by rfl) ?_; dsimp only)); at_builtin; refine Kd.R_append_rows k51 (w0 := w) w.heap.size rfl (.const (.slice none 0 0)) (.tmp 114) 46 51 (.agg #[(.string ⟨#[]⟩), (.string ⟨#[]⟩)]) 32 rfl Tryd.underlying46 info51 rfl (by decide) (by omega) (.slice none 0 0) ([] : List (S51)) l1 _ _ _ (fun _ => True) (fun _ => False) rfl rfl ?aO ?aR (fun _ _ h => h) (fun _ h => h.elim) ?aF ?aB ?aS ?aL ?_; (case aR => exact Kd.C_below HR1.out HB5.out); (case aB => exact HB5.out); (case aF => exact (fun _ _ => trivial)); (case aO => exact (Kd.R_nil _ _ _ _ (fun _ => True))); (case aS => exact HB5.out.size); (case aL => have := HL1.out; simp; omega); intro v6 w6 ho hb hg hat; rw [List.nil_append] at ho; obtain ⟨A6, c6, e6⟩ := Kd.R_slice ho; subst e6; have HQ6 := Aside0.mk ((Kd.R_reads' ho).2.2); have HC6 := Aside0.mk ((Kd.R_reads' ho).2.1); have hg6 := below_of_grown hg; have HO6 := Aside0.mk (Kd.C_below HO5.out hg6); have HB6 := Aside0.mk hb; clear ho hb hg hat hg6 HO5 HB5) | (go_at_call 37; refine (match_at _ _ [(⟨t.f0, 0, t.f2⟩ : S45)] _ _ l1 _ _ HMY.out _ HO6.out HC5.out HQ6.out HC6.out).mono ?_; rintro e w7 ⟨rfl, hb7⟩; have HBE := Aside0.mk (below_step HB6.out hb7); clear HB6 HO6 HC5 HQ6 HC6 hb7))
                    go_roundg g
                    case measure => omega
                    case rel => exact ⟨i + 1, _, rfl, by go_num, by omega, by omega, ⟨HHH.out⟩, HBE⟩
        | false =>
          have HTH := Lib.hid hth
          go_wp2_with (first | (go_at_call 39; refine (value_at A1 c1 l1 t.f0 HVR.out false HTH.out _ (Kd.C_below HR1.out (hbw.out.alloc hbw.out.size _)) HC1.out).mono ?_; rintro e w4 ⟨rfl, hb4⟩; have BK := Aside0.mk (blk_below (blk_new wr (.cells #[.string t.f0, .int .i64 t.f1, .slice A2 t.f2.length c2] 45)) hb4); have HB4 := Aside0.mk (below_step (hbw.out.alloc hbw.out.size _) hb4); clear hb4))
          obtain ⟨gb, hgb⟩ : ∃ gb, gb = wr.heap.size := ⟨_, rfl⟩
          have HGB := Lib.hid (show w.heap.size ≤ gb by rw [hgb]; exact hbw.out.size)
          rw [← hgb] at BK
          rw [← hgb]
          clear hgb hx0 hx1 hx2
          go_loopg [13, 14] t.f2.length (fun gi v13 v14 wx => ∃ m : Nat, v14 = .int .i64 m ∧ v13 = .bool (false) ∧ m ≤ t.f2.length ∧ t.f2.length ≤ m + gi ∧ Aside0 (wx.heap[gb]? = some (.cells #[.string t.f0, .int .i64 t.f1, .slice A2 t.f2.length c2] 45)) ∧ Aside0 (Below w.heap.size w wx))
          case atStart => exact ⟨0, rfl, rfl, by omega, by omega, BK, HB4⟩
          case round =>
            clear BK HB4
            obtain ⟨m, rfl, rfl, hmn, hmg, BK, hbx⟩ := hrel
            have hcz2 := (blk_cell BK.out 2).trans rfl
            by_cases hml : m < t.f2.length
            · cases gk with
              | zero => omega
              | succ gi =>
                obtain ⟨ad2, eA2, hy⟩ := Kd.at_string HR2.out (m : Int) (by omega) (by omega)
                cases eA2
                rw [Int.toNat_natCast] at hy
                replace hy := (hbx.out.cell (World.block_lt_of_cell? w _ hy)).trans hy
                have hm8 := H8.out
                go_wp2
                go_roundg gi
                case measure => omega
                case rel => exact ⟨m + 1, by go_num, rfl, by omega, by omega, BK, hbx⟩
            · obtain rfl : m = t.f2.length := by omega
              clear hml hmn hmg
              rcases prop_how HPP.out with hh | hh | ⟨hh | hh, _⟩
              · have HX := Lib.hid (show holdB l1 t = false by rw [hold_eq l1 t HPP.out, hth]; simp [hh])
                have HPF := Lib.hid (prop_flip HPP.out 3 (by omega))
                have HY := Lib.hid (show holdB l1 (flipT t 3) = true by rw [hold_eq l1 _ HPF.out]; show (if (3 : Int) = 0 then thereB l1 t.f0 && memB t.f2 (valS l1 t.f0) else if (3 : Int) = 1 then !(thereB l1 t.f0 && memB t.f2 (valS l1 t.f0)) else if (3 : Int) = 2 then thereB l1 t.f0 else !thereB l1 t.f0) = true; rw [hth]; rfl)
                have HMX := Lib.hid (show mR [t] l1 = (false, 0) by rw [mR_one l1 HVR.out t HPP.out, HX.out])
                have HMY := Lib.hid (show mR [flipT t 3] l1 = (true, 0) by rw [mR_one l1 HVR.out _ HPF.out, HY.out])
                have HBK := BK
                rw [hh] at HBK
                have hd0 := (blk_cell HBK.out 0).trans rfl
                have hd1 := (blk_cell HBK.out 1).trans rfl
                have HH := HNX.out
                rw [HX.out] at HH
                have HHH := Lib.hid HH
                clear HH hh BK
                cases b with
                | true =>
                  have HB := hbx
                  go_upto_region 27 with (first | (go_at_call 17; refine (own_at (some (ad.add (i * 3))) _ [t] _ (Kd.C_below HMID2.out HB.out) (by simp; omega) (by simp) (by intro x hx; simp at hx; subst hx; have := H8.out; omega)).mono ?_; rintro e w5 ⟨A5, c5, rfl, ho5, hc5, hb5⟩; have HB5 := Aside0.mk (below_step HB.out hb5); have HO5 := Aside0.mk ho5; have HC5 := Aside0.mk hc5; have BK5 := Aside0.mk (blk_below HBK.out hb5); clear ho5 hc5 HB HBK hb5) | ((with_reducible refine gate_builtin (b := .append) (xs := #[.const (.slice none 0 0), .tmp 101]) rfl ?_); (try (refine gate_guard (by rfl) ?_; dsimp only)); at_builtin; refine Kd.R_append_rows k51 (w0 := w) w.heap.size rfl (.const (.slice none 0 0)) (.tmp 101) 46 51 (.agg #[(.string ⟨#[]⟩), (.string ⟨#[]⟩)]) 32 rfl Tryd.underlying46 info51 rfl (by decide) (by omega) (.slice none 0 0) ([] : List (S51)) l1 _ _ _ (fun _ => True) (fun _ => False) rfl rfl ?aO ?aR (fun _ _ h => h) (fun _ h => h.elim) ?aF ?aB ?aS ?aL ?_; (case aR => exact Kd.C_below HR1.out HB5.out); (case aB => exact HB5.out); (case aF => exact (fun _ _ => trivial)); (case aO => exact (Kd.R_nil _ _ _ _ (fun _ => True))); (case aS => exact HB5.out.size); (case aL => have := HL1.out; simp; omega); intro v6 w6 ho hb hg hat; rw [List.nil_append] at ho; obtain ⟨A6, c6, e6⟩ := Kd.R_slice ho; subst e6; have HQ6 := Aside0.mk ((Kd.R_reads' ho).2.2); have HC6 := Aside0.mk ((Kd.R_reads' ho).2.1); have hg6 := below_of_grown hg; have HO6 := Aside0.mk (Kd.C_below HO5.out hg6); have HB6 := Aside0.mk hb; have BK6 := Aside0.mk (blk_below BK5.out hg6); clear BK5; clear ho hb hg hat hg6 HO5 HB5) | (go_at_call 37; refine (match_at _ _ [t] _ _ l1 _ _ HMX.out _ HO6.out HC5.out HQ6.out HC6.out).mono ?_; rintro e w7 ⟨rfl, hb7⟩; have HB := Aside0.mk (below_step HB6.out hb7); have BK7 := Aside0.mk (blk_below BK6.out hb7); clear BK6; clear HB6 HO6 HC5 HQ6 HC6 hb7))
                  have hcz0 := (blk_cell BK7.out 0).trans rfl
                  have hcz1 := (blk_cell BK7.out 1).trans rfl
                  have hcz2 := (blk_cell BK7.out 2).trans rfl
                  have hfz1 := blk_frozen BK7.out 1
                  go_upto_region 28 with fail
                  have HBS := Aside0.mk (HB.out.setCell (p := ⟨gb, 1, none⟩) HGB.out (.int .i64 3))
                  have BK8 := Aside0.mk (blk_put (cs' := #[.string t.f0, .int .i64 3, .slice A2 t.f2.length c2]) BK7.out 1 (.int .i64 3) rfl)
                  obtain ⟨w8, hw8⟩ : ∃ w8, w8 = w7.setCell ⟨gb, 1, none⟩ (.int .i64 3) := ⟨_, rfl⟩
                  rw [← hw8] at HBS BK8
                  rw [← hw8]
                  clear hw8 hcz0 hcz1 hcz2 hfz1 BK7 HB hd0 hd1
                  have hcz0 := (blk_cell BK8.out 0).trans rfl
                  have hcz1 := (blk_cell BK8.out 1).trans rfl
                  have hcz2 := (blk_cell BK8.out 2).trans rfl
                  go_wp2_with (first | (go_at_call 17; refine (own_at (some ⟨w8.heap.size, 0, none⟩) 1 [(⟨t.f0, 3, t.f2⟩ : S45)] (w8.alloc (.cells #[.string t.f0, .int .i64 3, .slice A2 t.f2.length c2] 45)) (C_one w8 t.f0 3 t.f2 A2 c2 (Kd.C_below HR2.out HBS.out) HC2.out) (by simp) (by simp) (by intro x hx; simp at hx; subst hx; exact Nat.le_trans H8.out (by decide))).mono ?_; rintro e w5 ⟨A5, c5, rfl, ho5, hc5, hb5⟩; have HB5 := Aside0.mk (below_step (HBS.out.alloc HBS.out.size _) hb5); have HO5 := Aside0.mk ho5; have HC5 := Aside0.mk hc5; clear ho5 hc5 hb5) | ((with_reducible refine gate_builtin (b := .append) (xs := #[.const (.slice none 0 0), .tmp 114]) rfl ?_); (try (refine gate_guard (by rfl) ?_; dsimp only)); at_builtin; refine Kd.R_append_rows k51 (w0 := w) w.heap.size rfl (.const (.slice none 0 0)) (.tmp 114) 46 51 (.agg #[(.string ⟨#[]⟩), (.string ⟨#[]⟩)]) 32 rfl Tryd.underlying46 info51 rfl (by decide) (by omega) (.slice none 0 0) ([] : List (S51)) l1 _ _ _ (fun _ => True) (fun _ => False) rfl rfl ?aO ?aR (fun _ _ h => h) (fun _ h => h.elim) ?aF ?aB ?aS ?aL ?_; (case aR => exact Kd.C_below HR1.out HB5.out); (case aB => exact HB5.out); (case aF => exact (fun _ _ => trivial)); (case aO => exact (Kd.R_nil _ _ _ _ (fun _ => True))); (case aS => exact HB5.out.size); (case aL => have := HL1.out; simp; omega); intro v6 w6 ho hb hg hat; rw [List.nil_append] at ho; obtain ⟨A6, c6, e6⟩ := Kd.R_slice ho; subst e6; have HQ6 := Aside0.mk ((Kd.R_reads' ho).2.2); have HC6 := Aside0.mk ((Kd.R_reads' ho).2.1); have hg6 := below_of_grown hg; have HO6 := Aside0.mk (Kd.C_below HO5.out hg6); have HB6 := Aside0.mk hb; clear ho hb hg hat hg6 HO5 HB5) | (go_at_call 37; refine (match_at _ _ [(⟨t.f0, 3, t.f2⟩ : S45)] _ _ l1 _ _ HMY.out _ HO6.out HC5.out HQ6.out HC6.out).mono ?_; rintro e w7 ⟨rfl, hb7⟩; have HBE := Aside0.mk (below_step HB6.out hb7); clear HB6 HO6 HC5 HQ6 HC6 hb7))
                  go_roundg g
                  case measure => omega
                  case rel => exact ⟨i + 1, _, rfl, by go_num, by omega, by omega, ⟨HHH.out⟩, HBE⟩
                | false =>
                  have HB := hbx
                  go_upto_region 27 with (first | (go_at_call 17; refine (own_at (some (ad.add (i * 3))) _ [t] _ (Kd.C_below HMID2.out HB.out) (by simp; omega) (by simp) (by intro x hx; simp at hx; subst hx; have := H8.out; omega)).mono ?_; rintro e w5 ⟨A5, c5, rfl, ho5, hc5, hb5⟩; have HB5 := Aside0.mk (below_step HB.out hb5); have HO5 := Aside0.mk ho5; have HC5 := Aside0.mk hc5; have BK5 := Aside0.mk (blk_below HBK.out hb5); clear ho5 hc5 HB HBK hb5) | ((with_reducible refine gate_builtin (b := .append) (xs := #[.const (.slice none 0 0), .tmp 101]) rfl ?_); (try (refine gate_guard (by rfl) ?_; dsimp only)); at_builtin; refine Kd.R_append_rows k51 (w0 := w) w.heap.size rfl (.const (.slice none 0 0)) (.tmp 101) 46 51 (.agg #[(.string ⟨#[]⟩), (.string ⟨#[]⟩)]) 32 rfl Tryd.underlying46 info51 rfl (by decide) (by omega) (.slice none 0 0) ([] : List (S51)) l1 _ _ _ (fun _ => True) (fun _ => False) rfl rfl ?aO ?aR (fun _ _ h => h) (fun _ h => h.elim) ?aF ?aB ?aS ?aL ?_; (case aR => exact Kd.C_below HR1.out HB5.out); (case aB => exact HB5.out); (case aF => exact (fun _ _ => trivial)); (case aO => exact (Kd.R_nil _ _ _ _ (fun _ => True))); (case aS => exact HB5.out.size); (case aL => have := HL1.out; simp; omega); intro v6 w6 ho hb hg hat; rw [List.nil_append] at ho; obtain ⟨A6, c6, e6⟩ := Kd.R_slice ho; subst e6; have HQ6 := Aside0.mk ((Kd.R_reads' ho).2.2); have HC6 := Aside0.mk ((Kd.R_reads' ho).2.1); have hg6 := below_of_grown hg; have HO6 := Aside0.mk (Kd.C_below HO5.out hg6); have HB6 := Aside0.mk hb; have BK6 := Aside0.mk (blk_below BK5.out hg6); clear BK5; clear ho hb hg hat hg6 HO5 HB5) | (go_at_call 37; refine (match_at _ _ [t] _ _ l1 _ _ HMX.out _ HO6.out HC5.out HQ6.out HC6.out).mono ?_; rintro e w7 ⟨rfl, hb7⟩; have HB := Aside0.mk (below_step HB6.out hb7); have BK7 := Aside0.mk (blk_below BK6.out hb7); clear BK6; clear HB6 HO6 HC5 HQ6 HC6 hb7))
                  have hcz0 := (blk_cell BK7.out 0).trans rfl
                  have hcz1 := (blk_cell BK7.out 1).trans rfl
                  have hcz2 := (blk_cell BK7.out 2).trans rfl
                  have hfz1 := blk_frozen BK7.out 1
                  go_upto_region 28 with fail
                  have HBS := Aside0.mk (HB.out.setCell (p := ⟨gb, 1, none⟩) HGB.out (.int .i64 3))
                  have BK8 := Aside0.mk (blk_put (cs' := #[.string t.f0, .int .i64 3, .slice A2 t.f2.length c2]) BK7.out 1 (.int .i64 3) rfl)
                  obtain ⟨w8, hw8⟩ : ∃ w8, w8 = w7.setCell ⟨gb, 1, none⟩ (.int .i64 3) := ⟨_, rfl⟩
                  rw [← hw8] at HBS BK8
                  rw [← hw8]
                  clear hw8 hcz0 hcz1 hcz2 hfz1 BK7 HB hd0 hd1
                  have hcz0 := (blk_cell BK8.out 0).trans rfl
                  have hcz1 := (blk_cell BK8.out 1).trans rfl
                  have hcz2 := (blk_cell BK8.out 2).trans rfl
                  go_wp2_with (first | (go_at_call 17; refine (own_at (some ⟨w8.heap.size, 0, none⟩) 1 [(⟨t.f0, 3, t.f2⟩ : S45)] (w8.alloc (.cells #[.string t.f0, .int .i64 3, .slice A2 t.f2.length c2] 45)) (C_one w8 t.f0 3 t.f2 A2 c2 (Kd.C_below HR2.out HBS.out) HC2.out) (by simp) (by simp) (by intro x hx; simp at hx; subst hx; exact Nat.le_trans H8.out (by decide))).mono ?_; rintro e w5 ⟨A5, c5, rfl, ho5, hc5, hb5⟩; have HB5 := Aside0.mk (below_step (HBS.out.alloc HBS.out.size _) hb5); have HO5 := Aside0.mk ho5; have HC5 := Aside0.mk hc5; clear ho5 hc5 hb5) | ((with_reducible refine gate_builtin (b := .append) (xs := #[.const (.slice none 0 0), .tmp 114]) rfl ?_); (try (refine gate_guard (by rfl) ?_; dsimp only)); at_builtin; refine Kd.R_append_rows k51 (w0 := w) w.heap.size rfl (.const (.slice none 0 0)) (.tmp 114) 46 51 (.agg #[(.string ⟨#[]⟩), (.string ⟨#[]⟩)]) 32 rfl Tryd.underlying46 info51 rfl (by decide) (by omega) (.slice none 0 0) ([] : List (S51)) l1 _ _ _ (fun _ => True) (fun _ => False) rfl rfl ?aO ?aR (fun _ _ h => h) (fun _ h => h.elim) ?aF ?aB ?aS ?aL ?_; (case aR => exact Kd.C_below HR1.out HB5.out); (case aB => exact HB5.out); (case aF => exact (fun _ _ => trivial)); (case aO => exact (Kd.R_nil _ _ _ _ (fun _ => True))); (case aS => exact HB5.out.size); (case aL => have := HL1.out; simp; omega); intro v6 w6 ho hb hg hat; rw [List.nil_append] at ho; obtain ⟨A6, c6, e6⟩ := Kd.R_slice ho; subst e6; have HQ6 := Aside0.mk ((Kd.R_reads' ho).2.2); have HC6 := Aside0.mk ((Kd.R_reads' ho).2.1); have hg6 := below_of_grown hg; have HO6 := Aside0.mk (Kd.C_below HO5.out hg6); have HB6 := Aside0.mk hb; clear ho hb hg hat hg6 HO5 HB5) | (go_at_call 37; refine (match_at _ _ [(⟨t.f0, 3, t.f2⟩ : S45)] _ _ l1 _ _ HMY.out _ HO6.out HC5.out HQ6.out HC6.out).mono ?_; rintro e w7 ⟨rfl, hb7⟩; have HBE := Aside0.mk (below_step HB6.out hb7); clear HB6 HO6 HC5 HQ6 HC6 hb7))
                  go_roundg g
                  case measure => omega
                  case rel => exact ⟨i + 1, _, rfl, by go_num, by omega, by omega, ⟨HHH.out⟩, HBE⟩
              · have HX := Lib.hid (show holdB l1 t = true by rw [hold_eq l1 t HPP.out, hth]; simp [hh])
                have HPF := Lib.hid (prop_flip HPP.out 2 (by omega))
                have HY := Lib.hid (show holdB l1 (flipT t 2) = false by rw [hold_eq l1 _ HPF.out]; show (if (2 : Int) = 0 then thereB l1 t.f0 && memB t.f2 (valS l1 t.f0) else if (2 : Int) = 1 then !(thereB l1 t.f0 && memB t.f2 (valS l1 t.f0)) else if (2 : Int) = 2 then thereB l1 t.f0 else !thereB l1 t.f0) = false; rw [hth]; rfl)
                have HMX := Lib.hid (show mR [t] l1 = (true, 0) by rw [mR_one l1 HVR.out t HPP.out, HX.out])
                have HMY := Lib.hid (show mR [flipT t 2] l1 = (false, 0) by rw [mR_one l1 HVR.out _ HPF.out, HY.out])
                have HBK := BK
                rw [hh] at HBK
                have hd0 := (blk_cell HBK.out 0).trans rfl
                have hd1 := (blk_cell HBK.out 1).trans rfl
                have HH := HNX.out
                rw [HX.out] at HH
                have HHH := Lib.hid HH
                clear HH hh BK
                cases b with
                | true =>
                  have HB := hbx
                  go_upto_region 27 with (first | (go_at_call 17; refine (own_at (some (ad.add (i * 3))) _ [t] _ (Kd.C_below HMID2.out HB.out) (by simp; omega) (by simp) (by intro x hx; simp at hx; subst hx; have := H8.out; omega)).mono ?_; rintro e w5 ⟨A5, c5, rfl, ho5, hc5, hb5⟩; have HB5 := Aside0.mk (below_step HB.out hb5); have HO5 := Aside0.mk ho5; have HC5 := Aside0.mk hc5; have BK5 := Aside0.mk (blk_below HBK.out hb5); clear ho5 hc5 HB HBK hb5) | ((with_reducible refine gate_builtin (b := .append) (xs := #[.const (.slice none 0 0), .tmp 101]) rfl ?_); (try (refine gate_guard (by rfl) ?_; dsimp only)); at_builtin; refine Kd.R_append_rows k51 (w0 := w) w.heap.size rfl (.const (.slice none 0 0)) (.tmp 101) 46 51 (.agg #[(.string ⟨#[]⟩), (.string ⟨#[]⟩)]) 32 rfl Tryd.underlying46 info51 rfl (by decide) (by omega) (.slice none 0 0) ([] : List (S51)) l1 _ _ _ (fun _ => True) (fun _ => False) rfl rfl ?aO ?aR (fun _ _ h => h) (fun _ h => h.elim) ?aF ?aB ?aS ?aL ?_; (case aR => exact Kd.C_below HR1.out HB5.out); (case aB => exact HB5.out); (case aF => exact (fun _ _ => trivial)); (case aO => exact (Kd.R_nil _ _ _ _ (fun _ => True))); (case aS => exact HB5.out.size); (case aL => have := HL1.out; simp; omega); intro v6 w6 ho hb hg hat; rw [List.nil_append] at ho; obtain ⟨A6, c6, e6⟩ := Kd.R_slice ho; subst e6; have HQ6 := Aside0.mk ((Kd.R_reads' ho).2.2); have HC6 := Aside0.mk ((Kd.R_reads' ho).2.1); have hg6 := below_of_grown hg; have HO6 := Aside0.mk (Kd.C_below HO5.out hg6); have HB6 := Aside0.mk hb; have BK6 := Aside0.mk (blk_below BK5.out hg6); clear BK5; clear ho hb hg hat hg6 HO5 HB5) | (go_at_call 37; refine (match_at _ _ [t] _ _ l1 _ _ HMX.out _ HO6.out HC5.out HQ6.out HC6.out).mono ?_; rintro e w7 ⟨rfl, hb7⟩; have HB := Aside0.mk (below_step HB6.out hb7); have BK7 := Aside0.mk (blk_below BK6.out hb7); clear BK6; clear HB6 HO6 HC5 HQ6 HC6 hb7))
                  have hcz0 := (blk_cell BK7.out 0).trans rfl
                  have hcz1 := (blk_cell BK7.out 1).trans rfl
                  have hcz2 := (blk_cell BK7.out 2).trans rfl
                  have hfz1 := blk_frozen BK7.out 1
                  go_upto_region 28 with fail
                  have HBS := Aside0.mk (HB.out.setCell (p := ⟨gb, 1, none⟩) HGB.out (.int .i64 2))
                  have BK8 := Aside0.mk (blk_put (cs' := #[.string t.f0, .int .i64 2, .slice A2 t.f2.length c2]) BK7.out 1 (.int .i64 2) rfl)
                  obtain ⟨w8, hw8⟩ : ∃ w8, w8 = w7.setCell ⟨gb, 1, none⟩ (.int .i64 2) := ⟨_, rfl⟩
                  rw [← hw8] at HBS BK8
                  rw [← hw8]
                  clear hw8 hcz0 hcz1 hcz2 hfz1 BK7 HB hd0 hd1
                  have hcz0 := (blk_cell BK8.out 0).trans rfl
                  have hcz1 := (blk_cell BK8.out 1).trans rfl
                  have hcz2 := (blk_cell BK8.out 2).trans rfl
                  go_wp2_with (first | (go_at_call 17; refine (own_at (some ⟨w8.heap.size, 0, none⟩) 1 [(⟨t.f0, 2, t.f2⟩ : S45)] (w8.alloc (.cells #[.string t.f0, .int .i64 2, .slice A2 t.f2.length c2] 45)) (C_one w8 t.f0 2 t.f2 A2 c2 (Kd.C_below HR2.out HBS.out) HC2.out) (by simp) (by simp) (by intro x hx; simp at hx; subst hx; exact Nat.le_trans H8.out (by decide))).mono ?_; rintro e w5 ⟨A5, c5, rfl, ho5, hc5, hb5⟩; have HB5 := Aside0.mk (below_step (HBS.out.alloc HBS.out.size _) hb5); have HO5 := Aside0.mk ho5; have HC5 := Aside0.mk hc5; clear ho5 hc5 hb5) | ((with_reducible refine gate_builtin (b := .append) (xs := #[.const (.slice none 0 0), .tmp 114]) rfl ?_); (try (refine gate_guard (by rfl) ?_; dsimp only)); at_builtin; refine Kd.R_append_rows k51 (w0 := w) w.heap.size rfl (.const (.slice none 0 0)) (.tmp 114) 46 51 (.agg #[(.string ⟨#[]⟩), (.string ⟨#[]⟩)]) 32 rfl Tryd.underlying46 info51 rfl (by decide) (by omega) (.slice none 0 0) ([] : List (S51)) l1 _ _ _ (fun _ => True) (fun _ => False) rfl rfl ?aO ?aR (fun _ _ h => h) (fun _ h => h.elim) ?aF ?aB ?aS ?aL ?_; (case aR => exact Kd.C_below HR1.out HB5.out); (case aB => exact HB5.out); (case aF => exact (fun _ _ => trivial)); (case aO => exact (Kd.R_nil _ _ _ _ (fun _ => True))); (case aS => exact HB5.out.size); (case aL => have := HL1.out; simp; omega); intro v6 w6 ho hb hg hat; rw [List.nil_append] at ho; obtain ⟨A6, c6, e6⟩ := Kd.R_slice ho; subst e6; have HQ6 := Aside0.mk ((Kd.R_reads' ho).2.2); have HC6 := Aside0.mk ((Kd.R_reads' ho).2.1); have hg6 := below_of_grown hg; have HO6 := Aside0.mk (Kd.C_below HO5.out hg6); have HB6 := Aside0.mk hb; clear ho hb hg hat hg6 HO5 HB5) | (go_at_call 37; refine (match_at _ _ [(⟨t.f0, 2, t.f2⟩ : S45)] _ _ l1 _ _ HMY.out _ HO6.out HC5.out HQ6.out HC6.out).mono ?_; rintro e w7 ⟨rfl, hb7⟩; have HBE := Aside0.mk (below_step HB6.out hb7); clear HB6 HO6 HC5 HQ6 HC6 hb7))
                  go_roundg g
                  case measure => omega
                  case rel => exact ⟨i + 1, _, rfl, by go_num, by omega, by omega, ⟨HHH.out⟩, HBE⟩
                | false =>
                  have HB := hbx
                  go_upto_region 27 with (first | (go_at_call 17; refine (own_at (some (ad.add (i * 3))) _ [t] _ (Kd.C_below HMID2.out HB.out) (by simp; omega) (by simp) (by intro x hx; simp at hx; subst hx; have := H8.out; omega)).mono ?_; rintro e w5 ⟨A5, c5, rfl, ho5, hc5, hb5⟩; have HB5 := Aside0.mk (below_step HB.out hb5); have HO5 := Aside0.mk ho5; have HC5 := Aside0.mk hc5; have BK5 := Aside0.mk (blk_below HBK.out hb5); clear ho5 hc5 HB HBK hb5) | ((with_reducible refine gate_builtin (b := .append) (xs := #[.const (.slice none 0 0), .tmp 101]) rfl ?_); (try (refine gate_guard (by rfl) ?_; dsimp only)); at_builtin; refine Kd.R_append_rows k51 (w0 := w) w.heap.size rfl (.const (.slice none 0 0)) (.tmp 101) 46 51 (.agg #[(.string ⟨#[]⟩), (.string ⟨#[]⟩)]) 32 rfl Tryd.underlying46 info51 rfl (by decide) (by omega) (.slice none 0 0) ([] : List (S51)) l1 _ _ _ (fun _ => True) (fun _ => False) rfl rfl ?aO ?aR (fun _ _ h => h) (fun _ h => h.elim) ?aF ?aB ?aS ?aL ?_; (case aR => exact Kd.C_below HR1.out HB5.out); (case aB => exact HB5.out); (case aF => exact (fun _ _ => trivial)); (case aO => exact (Kd.R_nil _ _ _ _ (fun _ => True))); (case aS => exact HB5.out.size); (case aL => have := HL1.out; simp; omega); intro v6 w6 ho hb hg hat; rw [List.nil_append] at ho; obtain ⟨A6, c6, e6⟩ := Kd.R_slice ho; subst e6; have HQ6 := Aside0.mk ((Kd.R_reads' ho).2.2); have HC6 := Aside0.mk ((Kd.R_reads' ho).2.1); have hg6 := below_of_grown hg; have HO6 := Aside0.mk (Kd.C_below HO5.out hg6); have HB6 := Aside0.mk hb; have BK6 := Aside0.mk (blk_below BK5.out hg6); clear BK5; clear ho hb hg hat hg6 HO5 HB5) | (go_at_call 37; refine (match_at _ _ [t] _ _ l1 _ _ HMX.out _ HO6.out HC5.out HQ6.out HC6.out).mono ?_; rintro e w7 ⟨rfl, hb7⟩; have HB := Aside0.mk (below_step HB6.out hb7); have BK7 := Aside0.mk (blk_below BK6.out hb7); clear BK6; clear HB6 HO6 HC5 HQ6 HC6 hb7))
                  have hcz0 := (blk_cell BK7.out 0).trans rfl
                  have hcz1 := (blk_cell BK7.out 1).trans rfl
                  have hcz2 := (blk_cell BK7.out 2).trans rfl
                  have hfz1 := blk_frozen BK7.out 1
                  go_upto_region 28 with fail
                  have HBS := Aside0.mk (HB.out.setCell (p := ⟨gb, 1, none⟩) HGB.out (.int .i64 2))
                  have BK8 := Aside0.mk (blk_put (cs' := #[.string t.f0, .int .i64 2, .slice A2 t.f2.length c2]) BK7.out 1 (.int .i64 2) rfl)
                  obtain ⟨w8, hw8⟩ : ∃ w8, w8 = w7.setCell ⟨gb, 1, none⟩ (.int .i64 2) := ⟨_, rfl⟩
                  rw [← hw8] at HBS BK8
                  rw [← hw8]
                  clear hw8 hcz0 hcz1 hcz2 hfz1 BK7 HB hd0 hd1
                  have hcz0 := (blk_cell BK8.out 0).trans rfl
                  have hcz1 := (blk_cell BK8.out 1).trans rfl
                  have hcz2 := (blk_cell BK8.out 2).trans rfl
                  go_wp2_with (first | (go_at_call 17; refine (own_at (some ⟨w8.heap.size, 0, none⟩) 1 [(⟨t.f0, 2, t.f2⟩ : S45)] (w8.alloc (.cells #[.string t.f0, .int .i64 2, .slice A2 t.f2.length c2] 45)) (C_one w8 t.f0 2 t.f2 A2 c2 (Kd.C_below HR2.out HBS.out) HC2.out) (by simp) (by simp) (by intro x hx; simp at hx; subst hx; exact Nat.le_trans H8.out (by decide))).mono ?_; rintro e w5 ⟨A5, c5, rfl, ho5, hc5, hb5⟩; have HB5 := Aside0.mk (below_step (HBS.out.alloc HBS.out.size _) hb5); have HO5 := Aside0.mk ho5; have HC5 := Aside0.mk hc5; clear ho5 hc5 hb5) | ((with_reducible refine gate_builtin (b := .append) (xs := #[.const (.slice none 0 0), .tmp 114]) rfl ?_); (try (refine gate_guard (by rfl) ?_; dsimp only)); at_builtin; refine Kd.R_append_rows k51 (w0 := w) w.heap.size rfl (.const (.slice none 0 0)) (.tmp 114) 46 51 (.agg #[(.string ⟨#[]⟩), (.string ⟨#[]⟩)]) 32 rfl Tryd.underlying46 info51 rfl (by decide) (by omega) (.slice none 0 0) ([] : List (S51)) l1 _ _ _ (fun _ => True) (fun _ => False) rfl rfl ?aO ?aR (fun _ _ h => h) (fun _ h => h.elim) ?aF ?aB ?aS ?aL ?_; (case aR => exact Kd.C_below HR1.out HB5.out); (case aB => exact HB5.out); (case aF => exact (fun _ _ => trivial)); (case aO => exact (Kd.R_nil _ _ _ _ (fun _ => True))); (case aS => exact HB5.out.size); (case aL => have := HL1.out; simp; omega); intro v6 w6 ho hb hg hat; rw [List.nil_append] at ho; obtain ⟨A6, c6, e6⟩ := Kd.R_slice ho; subst e6; have HQ6 := Aside0.mk ((Kd.R_reads' ho).2.2); have HC6 := Aside0.mk ((Kd.R_reads' ho).2.1); have hg6 := below_of_grown hg; have HO6 := Aside0.mk (Kd.C_below HO5.out hg6); have HB6 := Aside0.mk hb; clear ho hb hg hat hg6 HO5 HB5) | (go_at_call 37; refine (match_at _ _ [(⟨t.f0, 2, t.f2⟩ : S45)] _ _ l1 _ _ HMY.out _ HO6.out HC5.out HQ6.out HC6.out).mono ?_; rintro e w7 ⟨rfl, hb7⟩; have HBE := Aside0.mk (below_step HB6.out hb7); clear HB6 HO6 HC5 HQ6 HC6 hb7))
                  go_roundg g
                  case measure => omega
                  case rel => exact ⟨i + 1, _, rfl, by go_num, by omega, by omega, ⟨HHH.out⟩, HBE⟩
              · have HX := Lib.hid (show holdB l1 t = false by rw [hold_eq l1 t HPP.out, hth]; simp [hh])
                have HPF := Lib.hid (prop_flip HPP.out 1 (by omega))
                have HY := Lib.hid (show holdB l1 (flipT t 1) = true by rw [hold_eq l1 _ HPF.out]; show (if (1 : Int) = 0 then thereB l1 t.f0 && memB t.f2 (valS l1 t.f0) else if (1 : Int) = 1 then !(thereB l1 t.f0 && memB t.f2 (valS l1 t.f0)) else if (1 : Int) = 2 then thereB l1 t.f0 else !thereB l1 t.f0) = true; rw [hth]; rfl)
                have HMX := Lib.hid (show mR [t] l1 = (false, 0) by rw [mR_one l1 HVR.out t HPP.out, HX.out])
                have HMY := Lib.hid (show mR [flipT t 1] l1 = (true, 0) by rw [mR_one l1 HVR.out _ HPF.out, HY.out])
                have HBK := BK
                rw [hh] at HBK
                have hd0 := (blk_cell HBK.out 0).trans rfl
                have hd1 := (blk_cell HBK.out 1).trans rfl
                have HH := HNX.out
                rw [HX.out] at HH
                have HHH := Lib.hid HH
                clear HH hh BK
                cases b with
                | true =>
                  have HB := hbx
                  go_upto_region 27 with (first | (go_at_call 17; refine (own_at (some (ad.add (i * 3))) _ [t] _ (Kd.C_below HMID2.out HB.out) (by simp; omega) (by simp) (by intro x hx; simp at hx; subst hx; have := H8.out; omega)).mono ?_; rintro e w5 ⟨A5, c5, rfl, ho5, hc5, hb5⟩; have HB5 := Aside0.mk (below_step HB.out hb5); have HO5 := Aside0.mk ho5; have HC5 := Aside0.mk hc5; have BK5 := Aside0.mk (blk_below HBK.out hb5); clear ho5 hc5 HB HBK hb5) | ((with_reducible refine gate_builtin (b := .append) (xs := #[.const (.slice none 0 0), .tmp 101]) rfl ?_); (try (refine gate_guard (by rfl) ?_; dsimp only)); at_builtin; refine Kd.R_append_rows k51 (w0 := w) w.heap.size rfl (.const (.slice none 0 0)) (.tmp 101) 46 51 (.agg #[(.string ⟨#[]⟩), (.string ⟨#[]⟩)]) 32 rfl Tryd.underlying46 info51 rfl (by decide) (by omega) (.slice none 0 0) ([] : List (S51)) l1 _ _ _ (fun _ => True) (fun _ => False) rfl rfl ?aO ?aR (fun _ _ h => h) (fun _ h => h.elim) ?aF ?aB ?aS ?aL ?_; (case aR => exact Kd.C_below HR1.out HB5.out); (case aB => exact HB5.out); (case aF => exact (fun _ _ => trivial)); (case aO => exact (Kd.R_nil _ _ _ _ (fun _ => True))); (case aS => exact HB5.out.size); (case aL => have := HL1.out; simp; omega); intro v6 w6 ho hb hg hat; rw [List.nil_append] at ho; obtain ⟨A6, c6, e6⟩ := Kd.R_slice ho; subst e6; have HQ6 := Aside0.mk ((Kd.R_reads' ho).2.2); have HC6 := Aside0.mk ((Kd.R_reads' ho).2.1); have hg6 := below_of_grown hg; have HO6 := Aside0.mk (Kd.C_below HO5.out hg6); have HB6 := Aside0.mk hb; have BK6 := Aside0.mk (blk_below BK5.out hg6); clear BK5; clear ho hb hg hat hg6 HO5 HB5) | (go_at_call 37; refine (match_at _ _ [t] _ _ l1 _ _ HMX.out _ HO6.out HC5.out HQ6.out HC6.out).mono ?_; rintro e w7 ⟨rfl, hb7⟩; have HB := Aside0.mk (below_step HB6.out hb7); have BK7 := Aside0.mk (blk_below BK6.out hb7); clear BK6; clear HB6 HO6 HC5 HQ6 HC6 hb7))
                  have hcz0 := (blk_cell BK7.out 0).trans rfl
                  have hcz1 := (blk_cell BK7.out 1).trans rfl
                  have hcz2 := (blk_cell BK7.out 2).trans rfl
                  have hfz1 := blk_frozen BK7.out 1
                  go_upto_region 28 with fail
                  have HBS := Aside0.mk (HB.out.setCell (p := ⟨gb, 1, none⟩) HGB.out (.int .i64 1))
                  have BK8 := Aside0.mk (blk_put (cs' := #[.string t.f0, .int .i64 1, .slice A2 t.f2.length c2]) BK7.out 1 (.int .i64 1) rfl)
                  obtain ⟨w8, hw8⟩ : ∃ w8, w8 = w7.setCell ⟨gb, 1, none⟩ (.int .i64 1) := ⟨_, rfl⟩
                  rw [← hw8] at HBS BK8
                  rw [← hw8]
                  clear hw8 hcz0 hcz1 hcz2 hfz1 BK7 HB hd0 hd1
                  have hcz0 := (blk_cell BK8.out 0).trans rfl
                  have hcz1 := (blk_cell BK8.out 1).trans rfl
                  have hcz2 := (blk_cell BK8.out 2).trans rfl
                  go_wp2_with (first | (go_at_call 17; refine (own_at (some ⟨w8.heap.size, 0, none⟩) 1 [(⟨t.f0, 1, t.f2⟩ : S45)] (w8.alloc (.cells #[.string t.f0, .int .i64 1, .slice A2 t.f2.length c2] 45)) (C_one w8 t.f0 1 t.f2 A2 c2 (Kd.C_below HR2.out HBS.out) HC2.out) (by simp) (by simp) (by intro x hx; simp at hx; subst hx; exact Nat.le_trans H8.out (by decide))).mono ?_; rintro e w5 ⟨A5, c5, rfl, ho5, hc5, hb5⟩; have HB5 := Aside0.mk (below_step (HBS.out.alloc HBS.out.size _) hb5); have HO5 := Aside0.mk ho5; have HC5 := Aside0.mk hc5; clear ho5 hc5 hb5) | ((with_reducible refine gate_builtin (b := .append) (xs := #[.const (.slice none 0 0), .tmp 114]) rfl ?_); (try (refine gate_guard (by rfl) ?_; dsimp only)); at_builtin; refine Kd.R_append_rows k51 (w0 := w) w.heap.size rfl (.const (.slice none 0 0)) (.tmp 114) 46 51 (.agg #[(.string ⟨#[]⟩), (.string ⟨#[]⟩)]) 32 rfl Tryd.underlying46 info51 rfl (by decide) (by omega) (.slice none 0 0) ([] : List (S51)) l1 _ _ _ (fun _ => True) (fun _ => False) rfl rfl ?aO ?aR (fun _ _ h => h) (fun _ h => h.elim) ?aF ?aB ?aS ?aL ?_; (case aR => exact Kd.C_below HR1.out HB5.out); (case aB => exact HB5.out); (case aF => exact (fun _ _ => trivial)); (case aO => exact (Kd.R_nil _ _ _ _ (fun _ => True))); (case aS => exact HB5.out.size); (case aL => have := HL1.out; simp; omega); intro v6 w6 ho hb hg hat; rw [List.nil_append] at ho; obtain ⟨A6, c6, e6⟩ := Kd.R_slice ho; subst e6; have HQ6 := Aside0.mk ((Kd.R_reads' ho).2.2); have HC6 := Aside0.mk ((Kd.R_reads' ho).2.1); have hg6 := below_of_grown hg; have HO6 := Aside0.mk (Kd.C_below HO5.out hg6); have HB6 := Aside0.mk hb; clear ho hb hg hat hg6 HO5 HB5) | (go_at_call 37; refine (match_at _ _ [(⟨t.f0, 1, t.f2⟩ : S45)] _ _ l1 _ _ HMY.out _ HO6.out HC5.out HQ6.out HC6.out).mono ?_; rintro e w7 ⟨rfl, hb7⟩; have HBE := Aside0.mk (below_step HB6.out hb7); clear HB6 HO6 HC5 HQ6 HC6 hb7))
                  go_roundg g
                  case measure => omega
                  case rel => exact ⟨i + 1, _, rfl, by go_num, by omega, by omega, ⟨HHH.out⟩, HBE⟩
                | false =>
                  have HB := hbx
                  go_upto_region 27 with (first | (go_at_call 17; refine (own_at (some (ad.add (i * 3))) _ [t] _ (Kd.C_below HMID2.out HB.out) (by simp; omega) (by simp) (by intro x hx; simp at hx; subst hx; have := H8.out; omega)).mono ?_; rintro e w5 ⟨A5, c5, rfl, ho5, hc5, hb5⟩; have HB5 := Aside0.mk (below_step HB.out hb5); have HO5 := Aside0.mk ho5; have HC5 := Aside0.mk hc5; have BK5 := Aside0.mk (blk_below HBK.out hb5); clear ho5 hc5 HB HBK hb5) | ((with_reducible refine gate_builtin (b := .append) (xs := #[.const (.slice none 0 0), .tmp 101]) rfl ?_); (try (refine gate_guard (by rfl) ?_; dsimp only)); at_builtin; refine Kd.R_append_rows k51 (w0 := w) w.heap.size rfl (.const (.slice none 0 0)) (.tmp 101) 46 51 (.agg #[(.string ⟨#[]⟩), (.string ⟨#[]⟩)]) 32 rfl Tryd.underlying46 info51 rfl (by decide) (by omega) (.slice none 0 0) ([] : List (S51)) l1 _ _ _ (fun _ => True) (fun _ => False) rfl rfl ?aO ?aR (fun _ _ h => h) (fun _ h => h.elim) ?aF ?aB ?aS ?aL ?_; (case aR => exact Kd.C_below HR1.out HB5.out); (case aB => exact HB5.out); (case aF => exact (fun _ _ => trivial)); (case aO => exact (Kd.R_nil _ _ _ _ (fun _ => True))); (case aS => exact HB5.out.size); (case aL => have := HL1.out; simp; omega); intro v6 w6 ho hb hg hat; rw [List.nil_append] at ho; obtain ⟨A6, c6, e6⟩ := Kd.R_slice ho; subst e6; have HQ6 := Aside0.mk ((Kd.R_reads' ho).2.2); have HC6 := Aside0.mk ((Kd.R_reads' ho).2.1); have hg6 := below_of_grown hg; have HO6 := Aside0.mk (Kd.C_below HO5.out hg6); have HB6 := Aside0.mk hb; have BK6 := Aside0.mk (blk_below BK5.out hg6); clear BK5; clear ho hb hg hat hg6 HO5 HB5) | (go_at_call 37; refine (match_at _ _ [t] _ _ l1 _ _ HMX.out _ HO6.out HC5.out HQ6.out HC6.out).mono ?_; rintro e w7 ⟨rfl, hb7⟩; have HB := Aside0.mk (below_step HB6.out hb7); have BK7 := Aside0.mk (blk_below BK6.out hb7); clear BK6; clear HB6 HO6 HC5 HQ6 HC6 hb7))
                  have hcz0 := (blk_cell BK7.out 0).trans rfl
                  have hcz1 := (blk_cell BK7.out 1).trans rfl
                  have hcz2 := (blk_cell BK7.out 2).trans rfl
                  have hfz1 := blk_frozen BK7.out 1
                  go_upto_region 28 with fail
                  have HBS := Aside0.mk (HB.out.setCell (p := ⟨gb, 1, none⟩) HGB.out (.int .i64 1))
                  have BK8 := Aside0.mk (blk_put (cs' := #[.string t.f0, .int .i64 1, .slice A2 t.f2.length c2]) BK7.out 1 (.int .i64 1) rfl)
                  obtain ⟨w8, hw8⟩ : ∃ w8, w8 = w7.setCell ⟨gb, 1, none⟩ (.int .i64 1) := ⟨_, rfl⟩
                  rw [← hw8] at HBS BK8
                  rw [← hw8]
                  clear hw8 hcz0 hcz1 hcz2 hfz1 BK7 HB hd0 hd1
                  have hcz0 := (blk_cell BK8.out 0).trans rfl
                  have hcz1 := (blk_cell BK8.out 1).trans rfl
                  have hcz2 := (blk_cell BK8.out 2).trans rfl
                  go_wp2_with (first | (go_at_call 17; refine (own_at (some ⟨w8.heap.size, 0, none⟩) 1 [(⟨t.f0, 1, t.f2⟩ : S45)] (w8.alloc (.cells #[.string t.f0, .int .i64 1, .slice A2 t.f2.length c2] 45)) (C_one w8 t.f0 1 t.f2 A2 c2 (Kd.C_below HR2.out HBS.out) HC2.out) (by simp) (by simp) (by intro x hx; simp at hx; subst hx; exact Nat.le_trans H8.out (by decide))).mono ?_; rintro e w5 ⟨A5, c5, rfl, ho5, hc5, hb5⟩; have HB5 := Aside0.mk (below_step (HBS.out.alloc HBS.out.size _) hb5); have HO5 := Aside0.mk ho5; have HC5 := Aside0.mk hc5; clear ho5 hc5 hb5) | ((with_reducible refine gate_builtin (b := .append) (xs := #[.const (.slice none 0 0), .tmp 114]) rfl ?_); (try (refine gate_guard (by rfl) ?_; dsimp only)); at_builtin; refine Kd.R_append_rows k51 (w0 := w) w.heap.size rfl (.const (.slice none 0 0)) (.tmp 114) 46 51 (.agg #[(.string ⟨#[]⟩), (.string ⟨#[]⟩)]) 32 rfl Tryd.underlying46 info51 rfl (by decide) (by omega) (.slice none 0 0) ([] : List (S51)) l1 _ _ _ (fun _ => True) (fun _ => False) rfl rfl ?aO ?aR (fun _ _ h => h) (fun _ h => h.elim) ?aF ?aB ?aS ?aL ?_; (case aR => exact Kd.C_below HR1.out HB5.out); (case aB => exact HB5.out); (case aF => exact (fun _ _ => trivial)); (case aO => exact (Kd.R_nil _ _ _ _ (fun _ => True))); (case aS => exact HB5.out.size); (case aL => have := HL1.out; simp; omega); intro v6 w6 ho hb hg hat; rw [List.nil_append] at ho; obtain ⟨A6, c6, e6⟩ := Kd.R_slice ho; subst e6; have HQ6 := Aside0.mk ((Kd.R_reads' ho).2.2); have HC6 := Aside0.mk ((Kd.R_reads' ho).2.1); have hg6 := below_of_grown hg; have HO6 := Aside0.mk (Kd.C_below HO5.out hg6); have HB6 := Aside0.mk hb; clear ho hb hg hat hg6 HO5 HB5) | (go_at_call 37; refine (match_at _ _ [(⟨t.f0, 1, t.f2⟩ : S45)] _ _ l1 _ _ HMY.out _ HO6.out HC5.out HQ6.out HC6.out).mono ?_; rintro e w7 ⟨rfl, hb7⟩; have HBE := Aside0.mk (below_step HB6.out hb7); clear HB6 HO6 HC5 HQ6 HC6 hb7))
                  go_roundg g
                  case measure => omega
                  case rel => exact ⟨i + 1, _, rfl, by go_num, by omega, by omega, ⟨HHH.out⟩, HBE⟩
              · have HX := Lib.hid (show holdB l1 t = true by rw [hold_eq l1 t HPP.out, hth]; simp [hh])
                have HPF := Lib.hid (prop_flip HPP.out 0 (by omega))
                have HY := Lib.hid (show holdB l1 (flipT t 0) = false by rw [hold_eq l1 _ HPF.out]; show (if (0 : Int) = 0 then thereB l1 t.f0 && memB t.f2 (valS l1 t.f0) else if (0 : Int) = 1 then !(thereB l1 t.f0 && memB t.f2 (valS l1 t.f0)) else if (0 : Int) = 2 then thereB l1 t.f0 else !thereB l1 t.f0) = false; rw [hth]; rfl)
                have HMX := Lib.hid (show mR [t] l1 = (true, 0) by rw [mR_one l1 HVR.out t HPP.out, HX.out])
                have HMY := Lib.hid (show mR [flipT t 0] l1 = (false, 0) by rw [mR_one l1 HVR.out _ HPF.out, HY.out])
                have HBK := BK
                rw [hh] at HBK
                have hd0 := (blk_cell HBK.out 0).trans rfl
                have hd1 := (blk_cell HBK.out 1).trans rfl
                have HH := HNX.out
                rw [HX.out] at HH
                have HHH := Lib.hid HH
                clear HH hh BK
                cases b with
                | true =>
                  have HB := hbx
                  go_upto_region 27 with (first | (go_at_call 17; refine (own_at (some (ad.add (i * 3))) _ [t] _ (Kd.C_below HMID2.out HB.out) (by simp; omega) (by simp) (by intro x hx; simp at hx; subst hx; have := H8.out; omega)).mono ?_; rintro e w5 ⟨A5, c5, rfl, ho5, hc5, hb5⟩; have HB5 := Aside0.mk (below_step HB.out hb5); have HO5 := Aside0.mk ho5; have HC5 := Aside0.mk hc5; have BK5 := Aside0.mk (blk_below HBK.out hb5); clear ho5 hc5 HB HBK hb5) | ((with_reducible refine gate_builtin (b := .append) (xs := #[.const (.slice none 0 0), .tmp 101]) rfl ?_); (try (refine gate_guard (by rfl) ?_; dsimp only)); at_builtin; refine Kd.R_append_rows k51 (w0 := w) w.heap.size rfl (.const (.slice none 0 0)) (.tmp 101) 46 51 (.agg #[(.string ⟨#[]⟩), (.string ⟨#[]⟩)]) 32 rfl Tryd.underlying46 info51 rfl (by decide) (by omega) (.slice none 0 0) ([] : List (S51)) l1 _ _ _ (fun _ => True) (fun _ => False) rfl rfl ?aO ?aR (fun _ _ h => h) (fun _ h => h.elim) ?aF ?aB ?aS ?aL ?_; (case aR => exact Kd.C_below HR1.out HB5.out); (case aB => exact HB5.out); (case aF => exact (fun _ _ => trivial)); (case aO => exact (Kd.R_nil _ _ _ _ (fun _ => True))); (case aS => exact HB5.out.size); (case aL => have := HL1.out; simp; omega); intro v6 w6 ho hb hg hat; rw [List.nil_append] at ho; obtain ⟨A6, c6, e6⟩ := Kd.R_slice ho; subst e6; have HQ6 := Aside0.mk ((Kd.R_reads' ho).2.2); have HC6 := Aside0.mk ((Kd.R_reads' ho).2.1); have hg6 := below_of_grown hg; have HO6 := Aside0.mk (Kd.C_below HO5.out hg6); have HB6 := Aside0.mk hb; have BK6 := Aside0.mk (blk_below BK5.out hg6); clear BK5; clear ho hb hg hat hg6 HO5 HB5) | (go_at_call 37; refine (match_at _ _ [t] _ _ l1 _ _ HMX.out _ HO6.out HC5.out HQ6.out HC6.out).mono ?_; rintro e w7 ⟨rfl, hb7⟩; have HB := Aside0.mk (below_step HB6.out hb7); have BK7 := Aside0.mk (blk_below BK6.out hb7); clear BK6; clear HB6 HO6 HC5 HQ6 HC6 hb7))
                  have hcz0 := (blk_cell BK7.out 0).trans rfl
                  have hcz1 := (blk_cell BK7.out 1).trans rfl
                  have hcz2 := (blk_cell BK7.out 2).trans rfl
                  have hfz1 := blk_frozen BK7.out 1
                  go_upto_region 28 with fail
                  have HBS := Aside0.mk (HB.out.setCell (p := ⟨gb, 1, none⟩) HGB.out (.int .i64 0))
                  have BK8 := Aside0.mk (blk_put (cs' := #[.string t.f0, .int .i64 0, .slice A2 t.f2.length c2]) BK7.out 1 (.int .i64 0) rfl)
                  obtain ⟨w8, hw8⟩ : ∃ w8, w8 = w7.setCell ⟨gb, 1, none⟩ (.int .i64 0) := ⟨_, rfl⟩
                  rw [← hw8] at HBS BK8
                  rw [← hw8]
                  clear hw8 hcz0 hcz1 hcz2 hfz1 BK7 HB hd0 hd1
                  have hcz0 := (blk_cell BK8.out 0).trans rfl
                  have hcz1 := (blk_cell BK8.out 1).trans rfl
                  have hcz2 := (blk_cell BK8.out 2).trans rfl
                  go_wp2_with (first | (go_at_call 17; refine (own_at (some ⟨w8.heap.size, 0, none⟩) 1 [(⟨t.f0, 0, t.f2⟩ : S45)] (w8.alloc (.cells #[.string t.f0, .int .i64 0, .slice A2 t.f2.length c2] 45)) (C_one w8 t.f0 0 t.f2 A2 c2 (Kd.C_below HR2.out HBS.out) HC2.out) (by simp) (by simp) (by intro x hx; simp at hx; subst hx; exact Nat.le_trans H8.out (by decide))).mono ?_; rintro e w5 ⟨A5, c5, rfl, ho5, hc5, hb5⟩; have HB5 := Aside0.mk (below_step (HBS.out.alloc HBS.out.size _) hb5); have HO5 := Aside0.mk ho5; have HC5 := Aside0.mk hc5; clear ho5 hc5 hb5) | ((with_reducible refine gate_builtin (b := .append) (xs := #[.const (.slice none 0 0), .tmp 114]) rfl ?_); (try (refine gate_guard (by rfl) ?_; dsimp only)); at_builtin; refine Kd.R_append_rows k51 (w0 := w) w.heap.size rfl (.const (.slice none 0 0)) (.tmp 114) 46 51 (.agg #[(.string ⟨#[]⟩), (.string ⟨#[]⟩)]) 32 rfl Tryd.underlying46 info51 rfl (by decide) (by omega) (.slice none 0 0) ([] : List (S51)) l1 _ _ _ (fun _ => True) (fun _ => False) rfl rfl ?aO ?aR (fun _ _ h => h) (fun _ h => h.elim) ?aF ?aB ?aS ?aL ?_; (case aR => exact Kd.C_below HR1.out HB5.out); (case aB => exact HB5.out); (case aF => exact (fun _ _ => trivial)); (case aO => exact (Kd.R_nil _ _ _ _ (fun _ => True))); (case aS => exact HB5.out.size); (case aL => have := HL1.out; simp; omega); intro v6 w6 ho hb hg hat; rw [List.nil_append] at ho; obtain ⟨A6, c6, e6⟩ := Kd.R_slice ho; subst e6; have HQ6 := Aside0.mk ((Kd.R_reads' ho).2.2); have HC6 := Aside0.mk ((Kd.R_reads' ho).2.1); have hg6 := below_of_grown hg; have HO6 := Aside0.mk (Kd.C_below HO5.out hg6); have HB6 := Aside0.mk hb; clear ho hb hg hat hg6 HO5 HB5) | (go_at_call 37; refine (match_at _ _ [(⟨t.f0, 0, t.f2⟩ : S45)] _ _ l1 _ _ HMY.out _ HO6.out HC5.out HQ6.out HC6.out).mono ?_; rintro e w7 ⟨rfl, hb7⟩; have HBE := Aside0.mk (below_step HB6.out hb7); clear HB6 HO6 HC5 HQ6 HC6 hb7))
                  go_roundg g
                  case measure => omega
                  case rel => exact ⟨i + 1, _, rfl, by go_num, by omega, by omega, ⟨HHH.out⟩, HBE⟩
                | false =>
                  have HB := hbx
                  go_upto_region 27 with (first | (go_at_call 17; refine (own_at (some (ad.add (i * 3))) _ [t] _ (Kd.C_below HMID2.out HB.out) (by simp; omega) (by simp) (by intro x hx; simp at hx; subst hx; have := H8.out; omega)).mono ?_; rintro e w5 ⟨A5, c5, rfl, ho5, hc5, hb5⟩; have HB5 := Aside0.mk (below_step HB.out hb5); have HO5 := Aside0.mk ho5; have HC5 := Aside0.mk hc5; have BK5 := Aside0.mk (blk_below HBK.out hb5); clear ho5 hc5 HB HBK hb5) | ((with_reducible refine gate_builtin (b := .append) (xs := #[.const (.slice none 0 0), .tmp 101]) rfl ?_); (try (refine gate_guard (by rfl) ?_; dsimp only)); at_builtin; refine Kd.R_append_rows k51 (w0 := w) w.heap.size rfl (.const (.slice none 0 0)) (.tmp 101) 46 51 (.agg #[(.string ⟨#[]⟩), (.string ⟨#[]⟩)]) 32 rfl Tryd.underlying46 info51 rfl (by decide) (by omega) (.slice none 0 0) ([] : List (S51)) l1 _ _ _ (fun _ => True) (fun _ => False) rfl rfl ?aO ?aR (fun _ _ h => h) (fun _ h => h.elim) ?aF ?aB ?aS ?aL ?_; (case aR => exact Kd.C_below HR1.out HB5.out); (case aB => exact HB5.out); (case aF => exact (fun _ _ => trivial)); (case aO => exact (Kd.R_nil _ _ _ _ (fun _ => True))); (case aS => exact HB5.out.size); (case aL => have := HL1.out; simp; omega); intro v6 w6 ho hb hg hat; rw [List.nil_append] at ho; obtain ⟨A6, c6, e6⟩ := Kd.R_slice ho; subst e6; have HQ6 := Aside0.mk ((Kd.R_reads' ho).2.2); have HC6 := Aside0.mk ((Kd.R_reads' ho).2.1); have hg6 := below_of_grown hg; have HO6 := Aside0.mk (Kd.C_below HO5.out hg6); have HB6 := Aside0.mk hb; have BK6 := Aside0.mk (blk_below BK5.out hg6); clear BK5; clear ho hb hg hat hg6 HO5 HB5) | (go_at_call 37; refine (match_at _ _ [t] _ _ l1 _ _ HMX.out _ HO6.out HC5.out HQ6.out HC6.out).mono ?_; rintro e w7 ⟨rfl, hb7⟩; have HB := Aside0.mk (below_step HB6.out hb7); have BK7 := Aside0.mk (blk_below BK6.out hb7); clear BK6; clear HB6 HO6 HC5 HQ6 HC6 hb7))
                  have hcz0 := (blk_cell BK7.out 0).trans rfl
                  have hcz1 := (blk_cell BK7.out 1).trans rfl
                  have hcz2 := (blk_cell BK7.out 2).trans rfl
                  have hfz1 := blk_frozen BK7.out 1
                  go_upto_region 28 with fail
                  have HBS := Aside0.mk (HB.out.setCell (p := ⟨gb, 1, none⟩) HGB.out (.int .i64 0))
                  have BK8 := Aside0.mk (blk_put (cs' := #[.string t.f0, .int .i64 0, .slice A2 t.f2.length c2]) BK7.out 1 (.int .i64 0) rfl)
                  obtain ⟨w8, hw8⟩ : ∃ w8, w8 = w7.setCell ⟨gb, 1, none⟩ (.int .i64 0) := ⟨_, rfl⟩
                  rw [← hw8] at HBS BK8
                  rw [← hw8]
                  clear hw8 hcz0 hcz1 hcz2 hfz1 BK7 HB hd0 hd1
                  have hcz0 := (blk_cell BK8.out 0).trans rfl
                  have hcz1 := (blk_cell BK8.out 1).trans rfl
                  have hcz2 := (blk_cell BK8.out 2).trans rfl
                  go_wp2_with (first | (go_at_call 17; refine (own_at (some ⟨w8.heap.size, 0, none⟩) 1 [(⟨t.f0, 0, t.f2⟩ : S45)] (w8.alloc (.cells #[.string t.f0, .int .i64 0, .slice A2 t.f2.length c2] 45)) (C_one w8 t.f0 0 t.f2 A2 c2 (Kd.C_below HR2.out HBS.out) HC2.out) (by simp) (by simp) (by intro x hx; simp at hx; subst hx; exact Nat.le_trans H8.out (by decide))).mono ?_; rintro e w5 ⟨A5, c5, rfl, ho5, hc5, hb5⟩; have HB5 := Aside0.mk (below_step (HBS.out.alloc HBS.out.size _) hb5); have HO5 := Aside0.mk ho5; have HC5 := Aside0.mk hc5; clear ho5 hc5 hb5) | ((with_reducible refine gate_builtin (b := .append) (xs := #[.const (.slice none 0 0), .tmp 114]) rfl ?_); (try (refine gate_guard (by rfl) ?_; dsimp only)); at_builtin; refine Kd.R_append_rows k51 (w0 := w) w.heap.size rfl (.const (.slice none 0 0)) (.tmp 114) 46 51 (.agg #[(.string ⟨#[]⟩), (.string ⟨#[]⟩)]) 32 rfl Tryd.underlying46 info51 rfl (by decide) (by omega) (.slice none 0 0) ([] : List (S51)) l1 _ _ _ (fun _ => True) (fun _ => False) rfl rfl ?aO ?aR (fun _ _ h => h) (fun _ h => h.elim) ?aF ?aB ?aS ?aL ?_; (case aR => exact Kd.C_below HR1.out HB5.out); (case aB => exact HB5.out); (case aF => exact (fun _ _ => trivial)); (case aO => exact (Kd.R_nil _ _ _ _ (fun _ => True))); (case aS => exact HB5.out.size); (case aL => have := HL1.out; simp; omega); intro v6 w6 ho hb hg hat; rw [List.nil_append] at ho; obtain ⟨A6, c6, e6⟩ := Kd.R_slice ho; subst e6; have HQ6 := Aside0.mk ((Kd.R_reads' ho).2.2); have HC6 := Aside0.mk ((Kd.R_reads' ho).2.1); have hg6 := below_of_grown hg; have HO6 := Aside0.mk (Kd.C_below HO5.out hg6); have HB6 := Aside0.mk hb; clear ho hb hg hat hg6 HO5 HB5) | (go_at_call 37; refine (match_at _ _ [(⟨t.f0, 0, t.f2⟩ : S45)] _ _ l1 _ _ HMY.out _ HO6.out HC5.out HQ6.out HC6.out).mono ?_; rintro e w7 ⟨rfl, hb7⟩; have HBE := Aside0.mk (below_step HB6.out hb7); clear HB6 HO6 HC5 HQ6 HC6 hb7))
                  go_roundg g
                  case measure => omega
                  case rel => exact ⟨i + 1, _, rfl, by go_num, by omega, by omega, ⟨HHH.out⟩, HBE⟩
    · obtain rfl : i = l0.length := by omega
      have HF := Lib.hid (show l0.all (holdB l1) = b by have := hall.out; rwa [List.take_length] at this)
      clear hall
      rw [HF.out]
      go_wp2
      go_ret
      exact ⟨by simp, hbw.out⟩
end Go.Proofs.YteaiobgnhlpblaaDoor.Q
namespace Go.Proofs.YteaiobgnhlpblaaDoor.Q
open Go.RowKit Go.Proofs.YteaiobgnhlpblaaDoorW.PrintWords Go.Proofs.YteaiobgnhlpblaaDoorW.PrintLast Go.ChangeShapes
set_option linter.unusedVariables false
set_option linter.unusedSimpArgs false
section
variable {H : Type} (enc : TypeId × Value → H) (P : Program) (w : World) (base : Nat) (spare : Nat → Bool) (held : Bool)
def Opens (t : TypeId) {α : Type} (d : Kd α) (Rel : DataW H → α → Prop) : Prop :=
  ∀ (fuel : Nat) (cs : List Value) (x : DataW H × List MemPlace), DataW.trod enc P w base spare held fuel t cs = some x → ∃ a, d.K w a cs ∧ Rel x.1 a
def OpensFs {α : Type} (off : Nat) (fs : List Field) (d : Kd α) (Rel : List (DataW H) → α → Prop) : Prop :=
  ∀ (n : Nat) (cs : List Value) (xs : List (DataW H × List MemPlace)), xs.length = fs.length → cs.length = off + d.sz →
    (∀ (i : Nat) (f : Field), fs[i]? = some f → DataW.trod enc P w base spare held n f.type ((cs.drop f.offset).take (P.cellsOf f.type)) = xs[i]?) → ∃ a, d.K w a (cs.drop off) ∧ Rel (xs.map (·.1)) a
variable {enc : TypeId × Value → H} {P : Program} {w : World} {base : Nat} {spare : Nat → Bool} {held : Bool}
theorem opens_string {t : TypeId} (ht : P.underlying t = some .string) : Opens enc P w base spare held t Kd.string (fun x (s : ByteArray) => x = .lit (.string s.data.toList) ∧ s.size ≤ maxLen) := by
  intro fuel cs x h
  obtain ⟨s, rfl, rfl, hs⟩ := DataW.trod_string ht h
  exact ⟨s, rfl, rfl, hs⟩
theorem opens_int {t : TypeId} {k : IntKind} (ht : P.underlying t = some (.int k)) : Opens enc P w base spare held t (Kd.int k) (fun x (n : Int) => x = .lit (.int k n) ∧ (Lit.int k n).wf = true) := by
  intro fuel cs x h
  obtain ⟨s, rfl, rfl, hs⟩ := DataW.trod_int ht h
  exact ⟨s, rfl, rfl, hs⟩
theorem list_of {α : Type} {p : Nat → α → Prop} : ∀ n : Nat, (∀ i, i < n → ∃ x, p i x) → ∃ l : List α, l.length = n ∧ ∀ i x, l[i]? = some x → p i x
  | 0, _ => ⟨[], rfl, fun i x h => by simp at h⟩
  | n + 1, h => by
    obtain ⟨l, hl, hp⟩ := list_of n (fun i hi => h i (by omega))
    obtain ⟨x, hx⟩ := h n (by omega)
    refine ⟨l ++ [x], by simp [hl], fun i y hy => ?_⟩
    rcases Nat.lt_trichotomy i n with h1 | h1 | h1
    · rw [List.getElem?_append_left (by omega)] at hy; exact hp i y hy
    · subst h1
      rw [List.getElem?_append_right (by omega), hl, Nat.sub_self] at hy
      simp at hy
      exact hy ▸ hx
    · rw [List.getElem?_eq_none (by simp; omega)] at hy; cases hy
def RowD {H : Type} {α : Type} (Rel : DataW H → α → Prop) (x : DataW H) (l : List α) : Prop :=
  (x = .nil ∧ l = []) ∨ ∃ es r, x = .slice es r ∧ es.length = l.length ∧ ∀ (i : Nat) e a, es[i]? = some e → l[i]? = some a → Rel e a
theorem opens_slice {t e : TypeId} {α : Type} {d : Kd α} {Rel : DataW H → α → Prop} (e' : Nat) (ht : P.underlying t = some (.slice e)) (hc : P.cellsOf e = d.sz) (h : Opens enc P w base spare held e d Rel) :
    Opens enc P w base spare held t (Kd.slice e' d) (fun x l => RowD Rel x l ∧ l.length ≤ maxLen) := by
  intro fuel cs x hx
  have h63 : maxLen ≤ 9223372036854775807 := by decide
  rcases Go.Deep.open_slice ht hx with ⟨rfl, rfl⟩ | ⟨a, len, cap, m, n, D, Pl, rfl, hb, hl, hm, hmm, rfl, hi⟩
  · exact ⟨[], ⟨none, 0, rfl, Nat.le_refl _, rfl, Nat.zero_le _, fun h => absurd h (Nat.lt_irrefl 0)⟩, .inl ⟨rfl, rfl⟩, Nat.zero_le _⟩
  · have hlm : len ≤ m := by rw [hmm]; split <;> omega
    obtain ⟨l, hll, hp⟩ := list_of (α := α) (p := fun i y => ∃ cs', w.cells? base (a.add (i * P.cellsOf e)) (P.cellsOf e) = some cs' ∧ d.K w y cs' ∧ Rel (D i) y) len (fun i h1 => by
      obtain ⟨cs', h2, h3⟩ := hi i (by omega)
      obtain ⟨y, hy, hr⟩ := h n cs' _ h3
      exact ⟨y, cs', h2, hy, hr⟩)
    subst hll
    refine ⟨l, ⟨some a, cap, rfl, hl, rfl, by omega, fun _ => ⟨a, rfl, fun j p hj => ?_⟩⟩, .inr ⟨_, _, rfl, by simp, fun i e' a' h1 h2 => ?_⟩, by omega⟩
    · obtain ⟨cs', h2, h3, _⟩ := hp j p hj
      obtain ⟨_, h4, h5⟩ := World.cells?_some h2
      refine ⟨cs', by rw [h4, hc], h3, fun i u hu => ?_⟩
      have hil : i < cs'.length := (List.getElem?_eq_some_iff.1 hu).1
      have := h5 i (by omega)
      rw [hu, Go.Deep.add_add, hc] at this
      exact this
    · obtain ⟨_, _, _, h4⟩ := hp i a' h2
      have hil : i < l.length := (List.getElem?_eq_some_iff.1 h2).1
      simp [hil] at h1
      subst h1
      exact h4
theorem opens_one {f : Field} {off : Nat} {α : Type} {d : Kd α} {Rel : DataW H → α → Prop} (hf : f.offset = off) (hc : P.cellsOf f.type = d.sz) (h : Opens enc P w base spare held f.type d Rel) :
    OpensFs enc P w base spare held off [f] d (fun l a => ∃ y, l = [y] ∧ Rel y a) := by
  intro n cs xs hx hcs hi
  obtain ⟨x, rfl⟩ := List.length_eq_one_iff.1 (show xs.length = 1 from hx)
  have h0 := hi 0 f rfl
  rw [hf, hc, List.take_of_length_le (by rw [List.length_drop]; omega)] at h0
  obtain ⟨a, ha, hr⟩ := h n _ x h0
  exact ⟨a, ha, _, rfl, hr⟩
theorem opens_cons {f : Field} {fs : List Field} {off : Nat} {α β : Type} {d0 : Kd α} {d : Kd β} {R0 : DataW H → α → Prop} {R : List (DataW H) → β → Prop} (hf : f.offset = off) (hc : P.cellsOf f.type = d0.sz) (h0 : Opens enc P w base spare held f.type d0 R0)
    (h : OpensFs enc P w base spare held (off + d0.sz) fs d R) : OpensFs enc P w base spare held off (f :: fs) (Kd.pair d0 d) (fun l a => ∃ y r, l = y :: r ∧ R0 y a.1 ∧ R r a.2) := by
  intro n cs xs hx hcs hi
  cases xs with
  | nil => simp at hx
  | cons x xs =>
    have hsz : (Kd.pair d0 d).sz = d0.sz + d.sz := rfl
    rw [hsz] at hcs
    have h1 := hi 0 f rfl
    rw [hf, hc] at h1
    obtain ⟨a, ha, hr⟩ := h0 n _ x h1
    obtain ⟨b, hb, hs⟩ := h n cs xs (by simpa using hx) (by omega) (fun i g hg => hi (i + 1) g hg)
    refine ⟨(a, b), ⟨_, _, ?_, ha, hb⟩, _, _, rfl, hr, hs⟩
    rw [← List.drop_drop]
    exact (List.take_append_drop _ _).symm
theorem opens_struct {t : TypeId} {fs : Array Field} {α β : Type} {d : Kd α} {R : List (DataW H) → α → Prop} (f : β → α) (g : α → β) (hg : ∀ a, f (g a) = a) (ht : P.underlying t = some (.struct fs)) (hc : P.cellsOf t = d.sz) (h : OpensFs enc P w base spare held 0 fs.toList d R) :
    Opens enc P w base spare held t (Kd.iso d f) (fun x b => ∃ l, x = .agg l ∧ R l (f b)) := by
  intro fuel cs x hx
  obtain ⟨xs, n, _, rfl, hl, hxl, hi⟩ := DataW.trod_struct ht hx
  obtain ⟨a, ha, hr⟩ := h n cs xs (by simpa using hxl) (by rw [hl, hc, Nat.zero_add]) (fun i g hg' => hi i g (by rw [← Array.getElem?_toList]; exact hg'))
  rw [List.drop_zero] at ha
  refine ⟨g a, ?_, _, rfl, ?_⟩
  · show d.K w (f (g a)) cs
    rw [hg]; exact ha
  · rw [hg]; exact hr
theorem row_open {t e : TypeId} {α : Type} {d : Kd α} {Rel : DataW H → α → Prop} {A : Option Addr} {len cap : Nat} {x : DataW H} {ps : List MemPlace} (ht : P.underlying t = some (.slice e)) (hc : P.cellsOf e = d.sz)
    (h : Opens enc P w base spare held e d Rel) (hx : ∃ m, DataW.trod enc P w base spare held m t [.slice A len cap] = some (x, ps)) :
    ∃ l : List α, len = l.length ∧ d.C w A l.length l ∧ l.length ≤ cap ∧ RowD Rel x l ∧ l.length ≤ maxLen := by
  obtain ⟨m, hm⟩ := hx
  obtain ⟨l, ⟨A', c', he, hlc, hC⟩, hr, hml⟩ := opens_slice 0 ht hc h m _ _ hm
  injection he with he _
  injection he with h1 h2 h3
  subst h1 h2 h3
  exact ⟨l, rfl, hC, hlc, hr, hml⟩
end
theorem bulk_pos {H : Type} (d : DataW H) : 1 ≤ Rows.uptoBulk d := by
  cases d with
  | lit l => cases l <;> simp only [Rows.uptoBulk] <;> omega
  | nil => simp only [Rows.uptoBulk]; omega
  | ptr d => simp only [Rows.uptoBulk]; omega
  | slice a b => simp only [Rows.uptoBulk]; omega
  | agg p => simp only [Rows.uptoBulk]; omega
  | iface a d => simp only [Rows.uptoBulk]; omega
  | map e => simp only [Rows.uptoBulk]; omega
  | _ => simp only [Rows.uptoBulk]; omega
theorem bulk_all {H : Type} : ∀ l : List (DataW H), l.length ≤ Rows.uptoBulkAll l ∧ ∀ (i : Nat) x, l[i]? = some x → Rows.uptoBulk x ≤ Rows.uptoBulkAll l
  | [] => ⟨Nat.zero_le _, fun i x h => by simp at h⟩
  | d :: l => by
    obtain ⟨h1, h2⟩ := bulk_all l
    have hp := bulk_pos d
    simp only [Rows.uptoBulkAll, List.length_cons]
    refine ⟨by omega, fun i x h => ?_⟩
    cases i with
    | zero => simp at h; subst h; omega
    | succ i => have := h2 i x (by simpa using h); omega
theorem bulk_row {H : Type} {α : Type} {Rel : DataW H → α → Prop} {x : DataW H} {l : List α} (h : RowD Rel x l) : l.length ≤ Rows.uptoBulk x ∧ ∀ (i : Nat) a, l[i]? = some a → ∃ e, Rel e a ∧ Rows.uptoBulk e ≤ Rows.uptoBulk x := by
  rcases h with ⟨rfl, rfl⟩ | ⟨es, r, rfl, hl, he⟩
  · exact ⟨Nat.zero_le _, fun i a h => by simp at h⟩
  · obtain ⟨h1, h2⟩ := bulk_all es
    simp only [Rows.uptoBulk]
    refine ⟨by omega, fun i a ha => ?_⟩
    have hil : i < es.length := by rw [hl]; exact (List.getElem?_eq_some_iff.1 ha).1
    have hes : es[i]? = some es[i] := List.getElem?_eq_getElem hil
    exact ⟨es[i], he i _ _ hes ha, by have := h2 i _ hes; omega⟩
theorem bulk_agg {H : Type} {l : List (DataW H)} (i : Nat) (x : DataW H) (h : l[i]? = some x) : Rows.uptoBulk x ≤ Rows.uptoBulk (.agg l) := by
  have := (bulk_all l).2 i x h
  simp only [Rows.uptoBulk]
  omega
end Go.Proofs.YteaiobgnhlpblaaDoor.Q
namespace Go.Proofs.YteaiobgnhlpblaaDoor.Q
open Go.RowKit Go.Proofs.YteaiobgnhlpblaaDoorW.PrintWords Go.Proofs.YteaiobgnhlpblaaDoorW.PrintLast Go.ChangeShapes
set_option linter.unusedVariables false
set_option linter.unusedSimpArgs false
def StrD {H : Type} (x : DataW H) (s : ByteArray) : Prop := x = .lit (.string s.data.toList) ∧ s.size ≤ maxLen
def TermD {H : Type} (x : DataW H) (b : S45) : Prop :=
  ∃ l, x = .agg l ∧ ∃ y r, l = y :: r ∧ StrD y b.f0 ∧ ∃ y2 r2, r = y2 :: r2 ∧ (y2 = .lit (.int .i64 b.f1) ∧ (Lit.int .i64 b.f1).wf = true) ∧ ∃ y3, r2 = [y3] ∧ (RowD StrD y3 b.f2 ∧ b.f2.length ≤ maxLen)
def LabelD {H : Type} (x : DataW H) (b : S51) : Prop := ∃ l, x = .agg l ∧ ∃ y r, l = y :: r ∧ StrD y b.f0 ∧ ∃ y2, r = [y2] ∧ StrD y2 b.f1
section
variable {H : Type} {enc : TypeId × Value → H} {w : World} {base : Nat} {spare : Nat → Bool} {held : Bool}
theorem opens45 : Opens enc Tryd.prog w base spare held 45 k45 TermD :=
  opens_struct (fun x : S45 => (x.f0, x.f1, x.f2)) (fun a => ⟨a.1, a.2.1, a.2.2⟩) (fun _ => rfl) Tryd.underlying45 (by kernel_rfl)
    (opens_cons rfl (by kernel_rfl) (opens_string Tryd.underlying9) (opens_cons rfl (by kernel_rfl) (opens_int Tryd.underlying3) (opens_one rfl (by kernel_rfl) (opens_slice 9 Tryd.underlying35 (by kernel_rfl) (opens_string Tryd.underlying9)))))
theorem opens51 : Opens enc Tryd.prog w base spare held 51 k51 LabelD :=
  opens_struct (fun x : S51 => (x.f0, x.f1)) (fun a => ⟨a.1, a.2⟩) (fun _ => rfl) Tryd.underlying51 (by kernel_rfl)
    (opens_cons rfl (by kernel_rfl) (opens_string Tryd.underlying9) (opens_one rfl (by kernel_rfl) (opens_string Tryd.underlying9)))
end
def Small45 (l : List S45) : Prop := l.length ≤ 1048576 ∧ ∀ t ∈ l, t.f2.length ≤ 1048576
def Small51 (l : List S51) : Prop := l.length ≤ 1048576
theorem small45 {H : Type} {d : DataW H} {l : List S45} (h : RowD TermD d l) (hb : Rows.uptoBulk d ≤ 1048576) : Small45 l := by
  obtain ⟨h1, h2⟩ := bulk_row h
  refine ⟨by omega, fun t ht => ?_⟩
  obtain ⟨i, hi, rfl⟩ := List.getElem_of_mem ht
  obtain ⟨e, ⟨l', rfl, y, r, rfl, _, y2, r2, rfl, _, y3, rfl, h3, _⟩, he⟩ := h2 i _ (List.getElem?_eq_getElem hi)
  have := bulk_agg (l := [y, y2, y3]) 2 y3 rfl
  have := (bulk_row h3).1
  omega
theorem small51 {H : Type} {d : DataW H} {l : List S51} (h : RowD LabelD d l) (hb : Rows.uptoBulk d ≤ 1048576) : Small51 l := by
  have := (bulk_row h).1
  unfold Small51
  omega
end Go.Proofs.YteaiobgnhlpblaaDoor.Q
namespace Go.Proofs.YteaiobgnhlpblaaDoor.Pure
open Go.RowKit Go.Proofs.YteaiobgnhlpblaaDoorW.PrintWords Go.Proofs.YteaiobgnhlpblaaDoorW.PrintLast Go.Proofs.YteaiobgnhlpblaaDoor.Q Go.Proofs.YteaiobgnhlpblaaDoor.Pl
set_option linter.unusedVariables false
set_option linter.unusedSimpArgs false
theorem LabelTermsHold (terms : List S45) (l : List S51) (ht : Small45 terms) (hl : Small51 l) : ∃ k, bursarlaw04_LabelTermsHold.f k terms l = some true := by
  refine ⟨0, ?_⟩
  unfold bursarlaw04_LabelTermsHold.f
  exact if_pos ⟨ht.1, ht.2, hl⟩
end Go.Proofs.YteaiobgnhlpblaaDoor.Pure
namespace Go.Proofs.YteaiobgnhlpblaaDoor.labelTermsHold
open Go.ChangeShapes Go.WideShapes Go.ChangeAt Go.RowKit
open Go.ChangeMaps (open_string shut_string)
set_option linter.unusedVariables false
set_option linter.unusedSimpArgs false
theorem own : ownKnob Tryd.prog.godebug = none := by kernel_rfl
theorem laidOut : laidOutB Tryd.prog = true := by kernel_rfl
theorem contract (H : Type) (enc : TypeId × Value → H) (W : World) (base : Nat) (args : Array Value) (ds gs : List (DataW H)) (before : List MemPlace)
    (hval0 : ∀ (j : Nat) t v, Tryd.f11.params[j]? = some t → args[j]? = some v → Value.okWide Tryd.prog W .any base t v)
    (hW : DataW.Whole enc Tryd.prog Tryd.f11.params.toList Rows.labelTermsHoldSpec.vars false W args.toList ds gs before)
    (hk : Rows.uptoSmall H (ds ++ gs) = true)
    (hsh : W.ShapedOpen Tryd.prog)
    : Calls Tryd.prog 11 args W fun e W' => ∃ v, e = .returned v ∧ Rows.labelTermsHoldSpec.post enc Tryd.prog Tryd.f11 false true false false W args v W' := by
  have hval : ∀ (j : Nat) t v, Tryd.f11.params[j]? = some t → args[j]? = some v → Value.okWide Tryd.prog W .any base t v := hval0
  have hW' := hW
  obtain ⟨p, q, hA0, hV, rfl, hfz, hnd⟩ := hW
  have hA : DataW.TrodAll enc Tryd.prog W 0 (fun _ => true) true Tryd.f11.params.toList args.toList ds p := hA0
  rw [Tryd.params11] at hA hval
  obtain ⟨v0, vs0, d0, ds0, p0, q0, hargs, rfl, rfl, h0, r0⟩ := trodAll_cons hA
  obtain ⟨v1, vs1, d1, ds1, p1, q1, rfl, rfl, rfl, h1, r1⟩ := trodAll_cons r0
  obtain ⟨rfl, rfl, rfl⟩ := trodAll_nil r1
  obtain rfl : args = #[v0, v1] := by cases args; simp_all
  obtain ⟨rfl, rfl⟩ := trodVars_none hV
  obtain ⟨A0, len0, cap0, rfl⟩ := okWide_slice Tryd.underlying23 (hval 0 23 v0 rfl rfl)
  have k0 := h0
  have lt0 : ∀ x ∈ p0, x.block < W.heap.size := by obtain ⟨m, hm⟩ := k0; exact DataW.trod_lt m _ _ _ hm
  obtain ⟨l0, rfl, hr0, hc0, hz0, hm0⟩ := Q.row_open Tryd.underlying23 (by kernel_rfl) Q.opens45 h0
  obtain ⟨A1, len1, cap1, rfl⟩ := okWide_slice Tryd.underlying46 (hval 1 46 v1 rfl rfl)
  have k1 := h1
  have lt1 : ∀ x ∈ p1, x.block < W.heap.size := by obtain ⟨m, hm⟩ := k1; exact DataW.trod_lt m _ _ _ hm
  obtain ⟨l1, rfl, hr1, hc1, hz1, hm1⟩ := Q.row_open Tryd.underlying46 (by kernel_rfl) Q.opens51 h1
  have hb := of_decide_eq_true hk
  simp only [List.append_nil, List.cons_append, List.nil_append, Rows.uptoBulkAll, Rows.uptoBulk, Array.length_toList] at hb
  have c0 : Q.Small45 l0 := Q.small45 hz0 (by omega)
  have c1 : Q.Small51 l1 := Q.small51 hz1 (by omega)
  obtain ⟨k, hp⟩ := Pure.LabelTermsHold l0 l1 c0 c1
  refine (Q.bursarlaw04_LabelTermsHold.calls k A0 cap0 l0 A1 cap1 l1 true W hr0 hc0 hr1 hc1 hp ⟨Tryd.laysM146.s1_3 W hsh⟩).mono fun e W' ⟨he, bel⟩ => ?_
  subst he
  exact ⟨_, rfl, _, _, _, [], _, [], hW', trodAll_mk1 (shut_bool Tryd.underlying4 _), (trodAll_cons_mk (Below.trod laidOut (by kernel_rfl) (of_decide_eq_true (by kernel_rfl)) k0 bel lt0) (trodAll_cons_mk (Below.trod laidOut (by kernel_rfl) (of_decide_eq_true (by kernel_rfl)) k1 bel lt1) trodAll_mk0)), rfl, bel.frame _, fun h => by cases h⟩
noncomputable def tab1 : Obj → Obj
  | .cells _ t frozen => .cells (Go.Pinned.utf8FirstZ.map fun (n : Nat) => Value.int .u8 (n : Int)).toArray t frozen
  | o => o
noncomputable def tab2 : Obj → Obj
  | .cells _ t frozen => .cells #[.int .u8 128, .int .u8 191, .int .u8 160, .int .u8 191, .int .u8 128, .int .u8 159, .int .u8 144, .int .u8 191, .int .u8 128, .int .u8 143, .int .u8 0, .int .u8 0, .int .u8 0, .int .u8 0, .int .u8 0, .int .u8 0, .int .u8 0, .int .u8 0, .int .u8 0, .int .u8 0, .int .u8 0, .int .u8 0, .int .u8 0, .int .u8 0, .int .u8 0, .int .u8 0, .int .u8 0, .int .u8 0, .int .u8 0, .int .u8 0, .int .u8 0, .int .u8 0] t frozen
  | o => o
noncomputable def laidWorld (os : Os) : World :=
  { World.holding Tryd.prog os ⟨#[], #[], []⟩ with heap := ((World.holding Tryd.prog os ⟨#[], #[], []⟩).heap.modify 1 tab1).modify 2 tab2 }
theorem laid_met (os : Os) : laidMet Tryd.prog Rows.labelTermsHoldRow.laid ((laidWorld os).forCall (fun _ _ => 0) ⟨#[], #[.slice none 0 0, .slice none 0 0], []⟩).memory :=
  laidMet_of_run' 8 (by kernel_rfl) (by kernel_rfl)
theorem reads (os : Os) {H : Type} (enc : TypeId × Value → H) : ∃ places, DataW.whole enc Tryd.prog ((laidWorld os).forCall (fun _ _ => 0) ⟨#[], #[.slice none 0 0, .slice none 0 0], []⟩).memory Tryd.f11.params.toList Rows.labelTermsHoldSpec.vars false (#[.slice none 0 0, .slice none 0 0] : Array Value).toList 8 = some ([.nil, .nil], [], places) :=
  ⟨[], by kernel_rfl⟩
set_option maxRecDepth 100000 in
theorem lifted (os : Os) (started : os.Started) (H : Type) (enc : TypeId × Value → H) (F : Stop.Interp) :
    ReturnsInHanded {} Tryd.checked os 11 .any ((Rows.OpenSpec.upto Rows.labelTermsHoldSpec).preRow enc Tryd.prog Tryd.f11 Rows.labelTermsHoldUptoRow.domain false Rows.labelTermsHoldUptoRow.laid) (((Rows.OpenSpec.upto Rows.labelTermsHoldSpec).at F).post enc Tryd.prog Tryd.f11 false true false false) := by
  obtain ⟨places, hx⟩ := reads os enc
  refine returnsInHanded_of_row (C := Tryd.checked) (s := Rows.OpenSpec.upto Rows.labelTermsHoldSpec) own started (by kernel_rfl) Tryd.func11
    (witness_row_at (enc := enc) (C := Tryd.checked) false (laidWorld os) #[.slice none 0 0, .slice none 0 0] rfl (by kernel_rfl) (by kernel_rfl) (by kernel_rfl)
      (OpenSpec.preRow_of_cond 8 hx (by kernel_rfl) (fun k hk => by cases hk; kernel_rfl) (by kernel_rfl) (laid_met os))) ?_
  intro W base args ds gs before hval hW _ hcond hsz _ hsh _
  exact contract H enc W base args ds gs before hval hW (hcond _ rfl) hsh
theorem said : Rows.LabelTermsHoldUptoSaid :=
  OpenClaim.holds_of_cond 11 Tryd.f11 rfl rfl rfl rfl rfl rfl rfl ⟨rfl, rfl, rfl, rfl, rfl⟩ rfl rfl rfl rfl rfl (by kernel_rfl) Tryd.func11 (by kernel_rfl)
    (of_decide_eq_true (by kernel_rfl)) (by unfold Func.isWrapper; first | (rw [if_pos (by decide +kernel)]; kernel_rfl) | (rw [if_neg (by decide +kernel)]; exact ⟨rfl, rfl⟩))
    (fun os started H enc _ F => by rw [OpenClaim.pre_eq_preRow]; exact lifted os started H enc F)
theorem plain (f : FuncId) (fn : Func) (hf : Tryd.pinned.checked.prog.funcNamed "bursar/bursarlaw04.LabelTermsHold" = some f) (hfn : Tryd.pinned.checked.prog.funcs[f]? = some fn) :
    false = Tryd.pinned.checked.prog.looks [] ∧ ∀ (j : Nat) t, fn.params[j]? = some t → Tryd.pinned.checked.prog.wantsStandIn t = false := by
  obtain rfl : f = 11 := Option.some.inj ((show Tryd.prog.funcNamed "bursar/bursarlaw04.LabelTermsHold" = some 11 by kernel_rfl).symm.trans hf) |>.symm
  obtain rfl : fn = Tryd.f11 := (Option.some.inj (Tryd.func11.symm.trans hfn)).symm
  refine ⟨by kernel_rfl, fun j t ht => ?_⟩
  rw [Tryd.params11] at ht
  have hall : ∀ x ∈ [23, 46], Tryd.prog.wantsStandIn x = false := by
    intro x hx; simp only [List.mem_cons, List.mem_nil_iff, or_false] at hx; rcases hx with rfl | rfl <;> kernel_rfl
  exact hall t (by simpa using Array.mem_of_getElem? ht)
theorem card : Rows.LabelTermsHoldUptoCardSaid :=
  Claim7.holds_tied_plain_at .later [] _ _ _ _ said (fun _ h => by cases h) (by kernel_rfl) (fun _ h => by cases h) labelTermsHoldUpto_row_tie rfl ⟨rfl, rfl⟩ (by kernel_rfl) rfl plain (by kernel_rfl)
end Go.Proofs.YteaiobgnhlpblaaDoor.labelTermsHold
namespace Go.Proofs.YteaiobgnhlpblaaDoor
theorem labelTermsHold_holds : Rows.LabelTermsHoldUptoCardSaid := labelTermsHold.card
end Go.Proofs.YteaiobgnhlpblaaDoor
