/- What the statement AccessGoesDownCardSaid rests on, part 4 of 4: walks and plain laws; what of the printer's words it leans on. -/
import Derived.Test.YtphddbijdfmpjaaDoorRows
import Derived.Test.YtphddbijdfmpjaaDoorCards
import Derived.Test.YtphddbijdfmpjaaDoorTie
import Derived.Test.YtphddbijdfmpjaaDoorMAG3
import Derived.ProofKit
import Derived.LaidSub
import Derived.Lib.LaidTab
import Derived.ChangeSame
import Derived.WalkKit
import Derived.OpenShut
import Derived.ShutString
import Derived.ChangeOld
import Derived.Below
import Derived.SizedLaws
import Derived.Deep.DeepHandedRow
import Derived.LaidMore
namespace Go.Proofs.YtphddbijdfmpjaaDoor.Wr
open Go.RowKit Go.MapRaw Go.Proofs.YtphddbijdfmpjaaDoorW.PrintWords Go.Proofs.YtphddbijdfmpjaaDoorW.PrintLast Go.Proofs.YtphddbijdfmpjaaDoor.Q
open Go.ChangeMaps (setBlock)
set_option linter.unusedVariables false
set_option linter.unusedSimpArgs false
theorem Off.set_high {b : Nat} {u w : World} (h : Off b u w) {r : Nat} (hr : u.heap.size ≤ r) (o : Obj) : Off b u (setBlock w r o) :=
  ⟨h.os, h.tape, h.output, by rw [set_size]; exact h.size, fun k hk hn => by rw [set_far _ _ _ _ (by omega)]; exact h.block k hk hn⟩
theorem Off.drew {b : Nat} {u w : World} (h : Off b u w) : Off b u w.drew := ⟨h.os, h.tape, h.output, h.size, h.block⟩
theorem Off.alloc {b : Nat} {u w : World} (h : Off b u w) (o : Obj) : Off b u (w.alloc o) := h.trans (Off.of_below ((Below.refl _ _).alloc (Nat.le_refl _) o))
instance memKey (k : Key) (l : List Key) : Decidable (k ∈ l) := decidable_of_iff (l.any (fun y => decide (y = k)) = true) (by simp)
def keepM (path : ByteArray) (L M : Tab) : Tab := M.filter fun x => decide (x.1.1 ≠ path ∨ x.1 ∈ List.map (fun y : Key × Bnd => y.1) L)
def leaveM (path : ByteArray) (M : Tab) : Tab := M.filter fun x => decide (x.1.1 ≠ path)
theorem keep_all (path : ByteArray) (M : Tab) : keepM path M M = M := by
  unfold keepM
  rw [List.filter_eq_self]
  intro x hx
  rw [decide_eq_true_eq]
  exact .inr (List.mem_map_of_mem (f := fun y : Key × Bnd => y.1) hx)
theorem keep_nil (path : ByteArray) (M : Tab) : keepM path [] M = leaveM path M := by
  unfold keepM leaveM
  apply List.filter_congr
  intro x _
  simp
theorem del_filter (k : Key) : ∀ M : Tab, (M.map (·.1)).Nodup → delA k M = M.filter fun x => decide (x.1 ≠ k)
  | [], _ => rfl
  | p :: r, h => by
    rw [List.map_cons, List.nodup_cons] at h
    unfold delA
    by_cases e : p.1 = k
    · rw [if_pos e, List.filter_cons, if_neg (by simp [e])]
      refine (List.filter_eq_self.2 fun x hx => ?_).symm
      rw [decide_eq_true_eq]
      intro e2
      refine h.1 ?_
      rw [e, ← e2]
      exact List.mem_map_of_mem (f := fun y : Key × Bnd => y.1) hx
    · rw [if_neg e, List.filter_cons, if_pos (by simpa using e), del_filter k r h.2]
theorem keep_far {path : ByteArray} {M A B : Tab} {p : Key × Bnd} (h : p.1.1 ≠ path) : keepM path (A ++ p :: B) M = keepM path (A ++ B) M := by
  unfold keepM
  apply List.filter_congr
  intro x _
  rw [decide_eq_decide]
  simp only [List.map_append, List.map_cons, List.mem_append, List.mem_cons]
  constructor
  · rintro (e | e | e | e)
    · exact .inl e
    · exact .inr (.inl e)
    · exact .inl (by rw [e]; exact h)
    · exact .inr (.inr e)
  · rintro (e | e | e)
    · exact .inl e
    · exact .inr (.inl e)
    · exact .inr (.inr (.inr e))
theorem keep_hit {path : ByteArray} {M A B : Tab} {p : Key × Bnd} (hM : (M.map (·.1)).Nodup) (h : p.1.1 = path) (hn : p.1 ∉ (A ++ B).map (·.1)) : delA p.1 (keepM path (A ++ p :: B) M) = keepM path (A ++ B) M := by
  have hs : ((keepM path (A ++ p :: B) M).map (·.1)).Nodup := ((List.filter_sublist (l := M)).map _).nodup hM
  rw [del_filter _ _ hs]
  unfold keepM
  rw [List.filter_filter]
  apply List.filter_congr
  intro x _
  rw [Bool.eq_iff_iff, Bool.and_eq_true]
  simp only [decide_eq_true_eq]
  constructor
  · rintro ⟨h1, h2 | h2⟩
    · exact .inl h2
    · rw [List.map_append, List.map_cons, List.mem_append, List.mem_cons] at h2
      rw [List.map_append, List.mem_append]
      exact .inr (h2.elim .inl fun h2 => h2.elim (fun e => absurd e h1) .inr)
  · intro h1
    refine ⟨fun e => ?_, ?_⟩
    · rcases h1 with h1 | h1
      · exact h1 (by rw [e]; exact h)
      · rw [e] at h1; exact hn h1
    · rcases h1 with h1 | h1
      · exact .inl h1
      · rw [List.map_append, List.mem_append] at h1
        rw [List.map_append, List.map_cons, List.mem_append, List.mem_cons]
        exact .inr (h1.elim .inl fun h1 => .inr (.inr h1))
theorem nodup_out {A B : Tab} {p : Key × Bnd} (h : ((A ++ p :: B).map (·.1)).Nodup) : p.1 ∉ (A ++ B).map (·.1) ∧ ((A ++ B).map (·.1)).Nodup := by
  rw [List.map_append, List.map_cons] at h
  have h2 := (List.perm_middle (l₁ := A.map (·.1)) (l₂ := B.map (·.1)) (a := p.1)).nodup_iff.1 h
  rw [List.nodup_cons] at h2
  rw [List.map_append]
  exact h2
theorem leave_sub {path : ByteArray} {M : Tab} {x : Key × Bnd} (h : x ∈ leaveM path M) : x ∈ M := (List.mem_filter.1 h).1
theorem leaveM_len (path : ByteArray) (M : Tab) : (leaveM path M).length ≤ M.length := List.length_filter_le _ _
set_option maxRecDepth 100000 in
set_option maxHeartbeats 4000000 in
theorem leave_ok (w : World) (t b : Nat) (M : Tab) (path : ByteArray) (hT : TB w t b M) (hM : M.length ≤ 1000000) :
    Calls Tryd.prog 22 #[.pointer (some ⟨t, 0, none⟩), .string path] w fun e w' => e = .returned (.int .i64 (cnt path M : Nat)) ∧ TB w' t b (leaveM path M) ∧ Off b w w' := by
  have hu70 := Tryd.underlying70
  obtain ⟨o, hr, hR⟩ := hT.holds.range (P := Tryd.prog) (T := 66) (eT := 27) (kT := 70) Tryd.underlying66
  have HR := Lib.hid hR
  have HM := Lib.hid hM
  have HT := Lib.hid hT
  have ht := hT.cell
  clear hT hR hM
  go_enter Tryd.func22, Tryd.ntmps22
  go_upto_region 3 with fail
  have hb1 : Off b w (w.alloc o) := (Off.refl b w).alloc o
  have HB1 := Lib.hid hb1
  have HRA := Aside0.mk HR.out
  clear hb1 hr
  generalize w.alloc o = w1 at HB1 HRA ⊢
  obtain ⟨r, hrr⟩ : ∃ r, r = w.heap.size := ⟨_, rfl⟩
  have HRR := Lib.hid hrr
  rw [← hrr] at HRA ⊢
  clear hrr ht HR
  go_loopg [5] M.length (fun g v5 wr => ∃ (n : Nat) (L : Tab), v5 = .int .i64 (n : Int) ∧ L.length ≤ g ∧ Aside0 (n + cnt path L = cnt path M) ∧ Aside0 (n ≤ M.length ∧ n + L.length ≤ M.length) ∧ Aside0 ((L.map (·.1)).Nodup) ∧ Aside0 (Ranging eK eV wr b r (keepM path L M) L) ∧ Aside0 (Off b w wr))
  case atStart => exact ⟨0, M, rfl, Nat.le_refl _, ⟨Nat.zero_add _⟩, ⟨by omega⟩, ⟨HT.out.nodup⟩, ⟨by rw [keep_all]; exact HRA.out⟩, ⟨HB1.out⟩⟩
  case round =>
    obtain ⟨n, L, rfl, hg, HC, HN, HND, HRg, HBw⟩ := hrel
    rcases HRg.out.next (P := Tryd.prog) 0 with ⟨hL, hrun⟩ | ⟨A, p, B, hL, wd, o2, hwd, hrun, hat⟩
    · subst hL
      go_wp2
      go_ret
      exact ⟨by have := HC.out; simp only [cnt, Nat.add_zero] at this; (rw [this] <;> rfl), TB.off HT.out HBw.out (by rw [← keep_nil]; exact HRg.out.holds) (((List.filter_sublist (l := M)).map _).nodup HT.out.nodup) (fun p hp => HT.out.fits p (leave_sub hp)), HBw.out⟩
    · subst hL
      cases gk with
      | zero => simp at hg
      | succ g =>
        have hent := hat.entry (P := Tryd.prog)
        have hbs : Off b w (setBlock wd r o2) := Off.set_high (by rcases hwd with rfl | rfl; exact HBw.out; exact HBw.out.drew) (by have := HRR.out; omega) o2
        have HBS := Lib.hid hbs
        have HAT := Lib.hid hat
        clear hbs hat hwd
        unfold eK eV at hrun hent
        generalize setBlock wd r o2 = w2 at HBS HAT hrun hent
        obtain ⟨⟨kp, kn⟩, bv⟩ := p
        have hnd := nodup_out HND.out
        have HN1 := Lib.hid hnd.1
        have HN2 := Lib.hid hnd.2
        clear hnd
        by_cases hp : kp = path
        · subst hp
          go_upto_region 6 with fail
          have hT3 : TB (w2.alloc (.cells #[.string kp, .string kn] 70)) t b (keepM kp (A ++ ((kp, kn), bv) :: B) M) := TB.off HT.out (HBS.out.alloc _) (Holds_alloc HAT.out.on.holds _) (((List.filter_sublist (l := M)).map _).nodup HT.out.nodup) (fun p hp => HT.out.fits p (List.mem_filter.1 hp).1)
          have hK3 := blk_new w2 (.cells #[.string kp, .string kn] 70)
          have hA3 := HAT.out.move (heap_alloc_old w2 (.cells #[.string kp, .string kn] 70) (Ranging_lt HAT.out.on).1) (heap_alloc_old w2 (.cells #[.string kp, .string kn] 70) (Ranging_lt HAT.out.on).2)
          have hO3 := HBS.out.alloc (.cells #[.string kp, .string kn] 70)
          have T3 := Lib.hid hT3
          have K3 := Lib.hid hK3
          have A3 := Lib.hid hA3
          have O3 := Lib.hid hO3
          clear hT3 hK3 hA3 hO3 HBS HAT hrun hent
          obtain ⟨kk, hkk⟩ : ∃ kk, kk = w2.heap.size := ⟨_, rfl⟩
          rw [← hkk] at K3 ⊢
          clear hkk
          generalize w2.alloc _ = w3 at T3 K3 A3 O3 ⊢
          refine start_ (n := 6) (S := fun w' => w'.cell? ⟨t, 0, none⟩ = some (.map (some b)) ∧ w'.cell? ⟨kk, 0, none⟩ = some (.string kp) ∧ w'.cell? ⟨kk, 1, none⟩ = some (.string kn)) (ds := [5]) (bl 0 6) (by kernel_rfl) rfl rfl ⟨T3.out.cell, (blk_cell K3.out 0).trans rfl, (blk_cell K3.out 1).trans rfl⟩ (fun hHeld => ?_)
          have A4 := Lib.hid (A3.out.move (w' := w3.drew) rfl rfl)
          have O4 := Lib.hid O3.out.drew
          clear A3 O3 T3 K3
          generalize w3.drew = w4 at A4 O4 hHeld ⊢
          refine pure_ (i := 0) (N := some 20) (v := ?_) (a' := ?_) (bl 1 5) rfl rfl (by kernel_rfl) (fun _ _ _ h => h) (Or.inl ⟨by rfl, ?_⟩) ?_ ?_
          rotate_left
          · intro w'
            go_simp
            with_reducible rfl
          rotate_left
          · simp only [Act.put, List.setIfInBounds_toArray, List.set_cons_zero, List.set_cons_succ, i64_w, i32_w]
            rfl
          refine pure_ (i := 1) (N := some 21) (v := ?_) (a' := ?_) (bl 2 4) rfl rfl (by kernel_rfl) (fun _ _ _ h => h) (Or.inl ⟨by rfl, ?_⟩) ?_ ?_
          rotate_left
          · intro w'
            go_simp
            with_reducible rfl
          rotate_left
          · simp only [Act.put, List.setIfInBounds_toArray, List.set_cons_zero, List.set_cons_succ, i64_w, i32_w]
            rfl
          refine pure_ (i := 2) (N := some 22) (v := ?_) (a' := ?_) (bl 3 3) rfl rfl (by kernel_rfl) (fun _ _ _ h => h) (Or.inl ⟨by rfl, ?_⟩) ?_ ?_
          rotate_left
          · intro w'
            go_simp
            with_reducible rfl
          rotate_left
          · simp only [Act.put, List.setIfInBounds_toArray, List.set_cons_zero, List.set_cons_succ, i64_w, i32_w]
            rfl
          refine take_ (i := 3) (N := some 23) (v := ?_) (a' := ?_) (bl 4 2) rfl rfl (by kernel_rfl) (fun _ _ _ h => h) (Or.inl ⟨by rfl, ?_⟩) hHeld ?_ ?_
          rotate_left
          · rintro w' ⟨s0, s1, s2⟩
            go_simp
            with_reducible rfl
          rotate_left
          · simp only [Act.put, List.setIfInBounds_toArray, List.set_cons_zero, List.set_cons_succ, i64_w, i32_w]
            rfl
          refine take_ (i := 4) (N := some 24) (v := ?_) (a' := ?_) (bl 5 1) rfl rfl (by kernel_rfl) (fun _ _ _ h => h) (Or.inl ⟨by rfl, ?_⟩) hHeld ?_ ?_
          rotate_left
          · rintro w' ⟨s0, s1, s2⟩
            go_simp
            with_reducible rfl
          rotate_left
          · simp only [Act.put, List.setIfInBounds_toArray, List.set_cons_zero, List.set_cons_succ, i64_w, i32_w]
            rfl
          refine last_ (i := 5) (N := none) (bl 6 0) rfl rfl (by kernel_rfl) (by decide) (fun K hK => ?_)
          obtain ⟨o5, hrun, hR5⟩ := A4.out.delete (P := Tryd.prog) kind_pl (fun a => ⟨a, rfl⟩) eqPl_iff 66 27 0 70 Tryd.underlying66 HN1.out
          rw [keep_hit HT.out.nodup rfl HN1.out] at hR5
          have HR5 := Lib.hid hR5
          clear hR5
          unfold eK at hrun
          refine value_ (v := .tuple #[]) (w1 := setBlock w4 b o5) (by rfl) rfl ?_ ?_
          · go_simp
          refine hK.out _ _ ?_
          clear hK K hrun
          refine norm_ (a' := ?_) ?_ ?_
          rotate_left
          · show Act.put _ none _ = _
            rfl
          refine done_ (by kernel_rfl) ?_
          have O5 := Lib.hid (O4.out.trans (Off.set b w4 o5))
          clear O4 A4
          generalize setBlock w4 b o5 = w5 at HR5 O5 ⊢
          go_wp2
          go_roundg g
          case measure => omega
          case rel => exact ⟨n + 1, A ++ B, by (have h1 := HN.out.1; have h2 := HM.out; rw [w64 n (by omega)]), by simp at hg ⊢; omega, ⟨by have := HC.out; rw [cnt_app] at this ⊢; simp only [cnt, if_pos] at this; omega⟩, ⟨by have := HN.out; simp at this ⊢; omega⟩, ⟨HN2.out⟩, ⟨HR5.out⟩, ⟨O5.out⟩⟩
        · have hpe : (kp.toList == path.toList) = false := by
            rw [toList_beq, Bool.eq_false_iff, Ne, ba_beq]; exact hp
          go_wp2
          go_roundg g
          case measure => omega
          case rel => exact ⟨n, A ++ B, rfl, by simp at hg ⊢; omega, ⟨by have := HC.out; rw [cnt_app] at this ⊢; simp only [cnt, if_neg hp] at this; omega⟩, ⟨by have := HN.out; simp at this ⊢; omega⟩, ⟨HN2.out⟩, ⟨by rw [← keep_far (p := ((kp, kn), bv)) hp]; exact Ranging_alloc HAT.out.on _⟩, ⟨HBS.out.alloc _⟩⟩
end Go.Proofs.YtphddbijdfmpjaaDoor.Wr
namespace Go.Proofs.YtphddbijdfmpjaaDoor.Q
open Go.RowKit Go.Proofs.YtphddbijdfmpjaaDoorW.PrintWords Go.Proofs.YtphddbijdfmpjaaDoorW.PrintLast
set_option linter.unusedVariables false
set_option linter.unusedSimpArgs false
theorem less_trans : ∀ x y z : List UInt8, Op.bytesLess x y = true → Op.bytesLess y z = true → Op.bytesLess x z = true
  | _, [], _, h, _ => by simp [Op.bytesLess] at h
  | _, _ :: _, [], _, h => by simp [Op.bytesLess] at h
  | [], _ :: _, _ :: _, _, _ => rfl
  | a :: x, b :: y, c :: z, h, k => by
    simp only [Op.bytesLess, Bool.or_eq_true, Bool.and_eq_true, decide_eq_true_eq, beq_iff_eq] at h k ⊢
    rcases h with h | ⟨rfl, h⟩
    · rcases k with k | ⟨rfl, k⟩
      · exact .inl (UInt8.lt_trans h k)
      · exact .inl h
    · rcases k with k | ⟨rfl, k⟩
      · exact .inl k
      · exact .inr ⟨rfl, less_trans x y z h k⟩
theorem less_irrefl : ∀ x : List UInt8, Op.bytesLess x x = false
  | [] => rfl
  | a :: x => by
    simp only [Op.bytesLess, less_irrefl x, Bool.and_false, Bool.or_false, decide_eq_false_iff_not]
    exact UInt8.lt_irrefl a
end Go.Proofs.YtphddbijdfmpjaaDoor.Q
namespace Go.Proofs.YtphddbijdfmpjaaDoor.Q
open Go.RowKit Go.Proofs.YtphddbijdfmpjaaDoorW.PrintWords Go.Proofs.YtphddbijdfmpjaaDoorW.PrintLast Go.Proofs.YtphddbijdfmpjaaDoorW.PrintMore
attribute [local go_sem] max2_int min2_int max_two min_two max_three min_three max_four min_four   -- for this text's walks alone
set_option linter.unusedVariables false
set_option linter.unusedSimpArgs false
def access_isVerb.f (a0 : Int) : Option (Bool) := if a0 ≥ 0 then (some (decide (a0 ≤ 3))) else (some false)
set_option maxHeartbeats 8000000 in
set_option maxRecDepth 100000 in
theorem access_isVerb.calls (a0 : Int) (r : Bool) (w : World) (h : access_isVerb.f a0 = some r) :
    Calls Tryd.prog 31 #[.int .i64 a0] w fun e w' => e = .returned (.bool r) ∧ Drawn0 w w' := by
  have H : (if a0 ≥ 0 then (some (decide (a0 ≤ 3))) else (some false)) = some r := h
  clear h
  by_cases c2 : a0 ≥ 0
  · rw [if_pos c2] at H
    have c2b0 : decide (0 ≤ a0) = true := decide_eq_true c2
    clear c2
    obtain rfl := Option.some.inj H
    go_enter Tryd.func31, Tryd.ntmps31
    go_wp2
    go_ret
    exact ⟨by first | rfl | (simp; done) | (simp [*]; done), by repeat (first | exact Drawn0.refl _ | apply Drawn0.step)⟩
  · rw [if_neg c2] at H
    have c2b0 : decide (0 ≤ a0) = false := decide_eq_false c2
    clear c2
    obtain rfl := Option.some.inj H
    go_enter Tryd.func31, Tryd.ntmps31
    go_wp2
    go_ret
    exact ⟨by first | rfl | (simp; done) | (simp [*]; done), by repeat (first | exact Drawn0.refl _ | apply Drawn0.step)⟩
end Go.Proofs.YtphddbijdfmpjaaDoor.Q
namespace Go.Proofs.YtphddbijdfmpjaaDoor.Wr
open Go.RowKit Go.MapRaw Go.Proofs.YtphddbijdfmpjaaDoorW.PrintWords Go.Proofs.YtphddbijdfmpjaaDoorW.PrintLast Go.Proofs.YtphddbijdfmpjaaDoor.Q
open Go.ChangeMaps (setBlock)
set_option linter.unusedVariables false
set_option linter.unusedSimpArgs false
def zb : Bnd := ⟨⟨#[]⟩, ⟨#[]⟩, ⟨#[]⟩, 0⟩
def BestAt (M : Tab) (s : ByteArray) (v : Int) (q : ByteArray) (c : Bnd) : Prop := (∃ x ∈ M, x.2 = c ∧ Mat s v q x) ∧ ∀ x ∈ M, Mat s v q x → Op.bytesLess x.2.name.toList c.name.toList = false
def WhyIs (M : Tab) (s : ByteArray) (v : Int) (p : ByteArray) (c : Bnd) (fd : Bool) : Prop :=
  (fd = false ∧ c = zb ∧ whyB M s v p = false) ∨ (fd = true ∧ isV v = true ∧ ∃ A q B, (lineS p).1 = A ++ q :: B ∧ (∀ a ∈ A, hasAt M s v a = false) ∧ BestAt M s v q c)
theorem WhyIs.found {M : Tab} {s : ByteArray} {v : Int} {p : ByteArray} {c : Bnd} {fd : Bool} (h : WhyIs M s v p c fd) : fd = whyB M s v p := by
  rcases h with ⟨rfl, _, h⟩ | ⟨rfl, hv, A, q, B, hl, _, ⟨x, hx, _, hm⟩, _⟩
  · exact h.symm
  · refine ((whyB_iff M s v p).2 ⟨(isV_iff v).1 hv, q, ?_, x, hx, hm⟩).symm
    rw [hl]; simp
structure Best (M L : Tab) (s : ByteArray) (v : Int) (q : ByteArray) (c : Bnd) (fd : Bool) : Prop where
  seen : ∀ x ∈ M, Mat s v q x → x ∈ L ∨ (fd = true ∧ Op.bytesLess x.2.name.toList c.name.toList = false)
  is : fd = true → ∃ x ∈ M, x.2 = c ∧ Mat s v q x
  not : fd = false → c = zb
theorem Best.start (M : Tab) (s : ByteArray) (v : Int) (q : ByteArray) : Best M M s v q zb false :=
  ⟨fun x hx _ => .inl hx, fun h => (by cases h), fun _ => rfl⟩
theorem Best.skip {M A B : Tab} {x : Key × Bnd} {s : ByteArray} {v : Int} {q : ByteArray} {c : Bnd} {fd : Bool} (h : Best M (A ++ x :: B) s v q c fd) (hx : Mat s v q x → fd = true ∧ Op.bytesLess x.2.name.toList c.name.toList = false) : Best M (A ++ B) s v q c fd :=
  ⟨fun y hy hm => (by
    rcases h.seen y hy hm with hl | hl
    · rcases List.mem_append.1 hl with hl | hl
      · exact .inl (List.mem_append.2 (.inl hl))
      · rcases List.mem_cons.1 hl with rfl | hl
        · exact .inr (hx hm)
        · exact .inl (List.mem_append.2 (.inr hl))
    · exact .inr hl), h.is, h.not⟩
theorem Best.take {M A B : Tab} {x : Key × Bnd} {s : ByteArray} {v : Int} {q : ByteArray} {c : Bnd} {fd : Bool} (h : Best M (A ++ x :: B) s v q c fd) (hxM : x ∈ M) (hm : Mat s v q x) (hx : fd = true → Op.bytesLess x.2.name.toList c.name.toList = true) : Best M (A ++ B) s v q x.2 true :=
  ⟨fun y hy hmy => (by
    rcases h.seen y hy hmy with hl | ⟨hf, hl⟩
    · rcases List.mem_append.1 hl with hl | hl
      · exact .inl (List.mem_append.2 (.inl hl))
      · rcases List.mem_cons.1 hl with rfl | hl
        · exact .inr ⟨rfl, less_irrefl _⟩
        · exact .inl (List.mem_append.2 (.inr hl))
    · refine .inr ⟨rfl, ?_⟩
      cases hb : Op.bytesLess y.2.name.toList x.2.name.toList with
      | false => rfl
      | true => rw [less_trans _ _ _ hb (hx hf)] at hl; cases hl), fun _ => ⟨x, hxM, rfl, hm⟩, fun h => (by cases h)⟩
theorem Best.found {M : Tab} {s : ByteArray} {v : Int} {q : ByteArray} {c : Bnd} (h : Best M [] s v q c true) : BestAt M s v q c :=
  ⟨h.is rfl, fun x hx hm => ((h.seen x hx hm).resolve_left (by simp)).2⟩
theorem Best.none {M : Tab} {s : ByteArray} {v : Int} {q : ByteArray} {c : Bnd} (h : Best M [] s v q c false) : hasAt M s v q = false := by
  rw [Bool.eq_false_iff]
  intro hh
  obtain ⟨x, hx, hm⟩ := (hasAt_iff M s v q).1 hh
  rcases h.seen x hx hm with hl | ⟨hl, _⟩
  · cases hl
  · cases hl
theorem Ranging_mem {w : World} {b r : Nat} {M L : Tab} (h : Ranging eK eV w b r M L) : ∀ x ∈ L, ∃ y ∈ M, eK x.1 = eK y.1 ∧ eV x.2 = eV y.2 := by
  obtain ⟨es, c, s, seen, c0, h1, h2, h3, h4, h5, h6, h7⟩ := h
  intro x hx
  have hm : (eK x.1, eV x.2) ∈ L.map (fun p => (eK p.1, eV p.2)) := List.mem_map.2 ⟨x, hx, rfl⟩
  rw [← h7] at hm
  obtain ⟨e, he, hk⟩ := List.mem_map.1 hm
  have : kv e ∈ M.map (fun p => (eK p.1, eV p.2)) := by
    rw [← h2.list]; exact List.mem_map.2 ⟨e, (List.mem_filter.1 he).1, rfl⟩
  obtain ⟨y, hy, hyk⟩ := List.mem_map.1 this
  rw [hk] at hyk
  exact ⟨y, hy, (congrArg Prod.fst hyk).symm, (congrArg Prod.snd hyk).symm⟩
theorem eK_inj {p q : Key} (h : eK p = eK q) : p = q := (eqPl_iff p q).1 (by rw [← h]; exact (eqPl_iff p p).2 rfl)
theorem eV_inj {b c : Bnd} (h : eV b = eV c) : b = c := by
  obtain ⟨b1, b2, b3, b4⟩ := b
  obtain ⟨c1, c2, c3, c4⟩ := c
  unfold eV at h
  simp only [Value.agg.injEq, Array.mk.injEq, List.cons.injEq, Value.string.injEq, Value.int.injEq, and_true, true_and] at h
  obtain ⟨h1, h2, h3, h4⟩ := h
  rw [h1, h2, h3, h4]
theorem Ranging_in {w : World} {b r : Nat} {M L : Tab} (h : Ranging eK eV w b r M L) {x : Key × Bnd} (hx : x ∈ L) : x ∈ M := by
  obtain ⟨y, hy, h1, h2⟩ := Ranging_mem h x hx
  rw [show x = y from Prod.ext (eK_inj h1) (eV_inj h2)]
  exact hy
theorem results_cell_row_tmp {P : Program} {fn : Func} {p u : Tmp} {ty : TypeId} (h : fn.results = #[.cell p ty, .tmp u]) (tmps : Array Value) (w : World) (g : Nat) (t : TypeId) (cs : Array Value) (fr : Nat × Nat) (d : TypeDesc)
    (hp : tmps.getD p undef = .pointer (some ⟨g, 0, none⟩)) (hg : w.heap[g]? = some (.cells cs t fr))
    (hu : P.underlying ty = some d) (hd : (match d with | .struct _ | .array _ _ => true | _ => false) = true) (hi : (P.info? ty).map (·.size) = some cs.size) :
    (results fn tmps).run P w = .ok (.tuple #[.agg cs, tmps.getD u undef]) w := by
  have hp' : tmps[p]?.getD undef = .pointer (some ⟨g, 0, none⟩) := by simpa using hp
  simp [results, h, hp', asAddr, run_loadVar_row w g t ty cs fr d hg hu hd hi, Sem.run_bind]
theorem line_ok (s : ByteArray) (w : World) (hG : Glob w) : Calls Tryd.prog 12 #[.string s] w fun e w' => ∃ v0_ : Value, e = .returned (.tuple #[v0_, .int .i64 (lineS s).2]) ∧ Kd.R Kd.string 9 w' w.heap.size (fun _ => True) v0_ (lineS s).1 ∧ Below w.heap.size w w' := by
  obtain ⟨k, h⟩ := line_ev s
  exact label_Line.calls k _ _ _ w (h k (Nat.le_refl _)) hG
theorem verb_ok (v : Int) (w : World) : Calls Tryd.prog 31 #[.int .i64 v] w fun e w' => e = .returned (.bool (isV v)) ∧ Below w.heap.size w w' := by
  refine (access_isVerb.calls v (isV v) w ?_).mono (fun e w' h => ⟨h.1, h.2.below⟩)
  unfold access_isVerb.f isV
  by_cases h : v ≥ 0
  · rw [if_pos h, decide_eq_true h, Bool.true_and]
  · rw [if_neg h, decide_eq_false h, Bool.false_and]
end Go.Proofs.YtphddbijdfmpjaaDoor.Wr
namespace Go.Proofs.YtphddbijdfmpjaaDoor.Wr
open Go.RowKit Go.MapRaw Go.Proofs.YtphddbijdfmpjaaDoorW.PrintWords Go.Proofs.YtphddbijdfmpjaaDoorW.PrintLast Go.Proofs.YtphddbijdfmpjaaDoor.Q
open Go.ChangeMaps (setBlock)
set_option linter.unusedVariables false
set_option linter.unusedSimpArgs false
theorem blk_put4 {w : World} {g : Nat} {a0 a1 a2 a3 b0 b1 b2 b3 : Value} (h : w.heap[g]? = some (.cells #[a0, a1, a2, a3] 27 (0, 0))) :
    ((((w.setCell ⟨g, 0, none⟩ b0).setCell ⟨g, 1, none⟩ b1).setCell ⟨g, 2, none⟩ b2).setCell ⟨g, 3, none⟩ b3).heap[g]? = some (.cells #[b0, b1, b2, b3] 27 (0, 0)) :=
  blk_put (blk_put (blk_put (blk_put h 0 b0 rfl) 1 b1 rfl) 2 b2 rfl) 3 b3 rfl
theorem below_put4 {B : Nat} {u w : World} {g : Nat} {b0 b1 b2 b3 : Value} (h : Below B u w) (hg : B ≤ g) :
    Below B u ((((w.setCell ⟨g, 0, none⟩ b0).setCell ⟨g, 1, none⟩ b1).setCell ⟨g, 2, none⟩ b2).setCell ⟨g, 3, none⟩ b3) :=
  (((h.setCell (p := ⟨g, 0, none⟩) hg b0).setCell (p := ⟨g, 1, none⟩) hg b1).setCell (p := ⟨g, 2, none⟩) hg b2).setCell (p := ⟨g, 3, none⟩) hg b3
theorem heap_put4 {w : World} {g k : Nat} {b0 b1 b2 b3 : Value} (hk : k ≠ g) :
    ((((w.setCell ⟨g, 0, none⟩ b0).setCell ⟨g, 1, none⟩ b1).setCell ⟨g, 2, none⟩ b2).setCell ⟨g, 3, none⟩ b3).heap[k]? = w.heap[k]? := by
  rw [Below.heap_setCell _ _ _ _ hk, Below.heap_setCell _ _ _ _ hk, Below.heap_setCell _ _ _ _ hk, Below.heap_setCell _ _ _ _ hk]
set_option maxRecDepth 100000 in
set_option maxHeartbeats 8000000 in
theorem why_ok (w : World) (t b : Nat) (M : Tab) (s : ByteArray) (v : Int) (p : ByteArray) (hT : TB w t b M) (hG : Glob w) :
    Calls Tryd.prog 32 #[.pointer (some ⟨t, 0, none⟩), .string s, .int .i64 v, .string p] w fun e w' => (∃ c fd, e = .returned (.tuple #[eV c, .bool fd]) ∧ WhyIs M s v p c fd) ∧ Below w.heap.size w w' := by
  have hu27 := Tryd.underlying27
  have hu70 := Tryd.underlying70
  have key := verb_ok v
  have hal := (Below.refl w.heap.size w).alloc (Nat.le_refl _) (.cells #[.string ⟨#[]⟩, .string ⟨#[]⟩, .string ⟨#[]⟩, .int .i64 0] 27)
  have hnew := blk_new w (.cells #[.string ⟨#[]⟩, .string ⟨#[]⟩, .string ⟨#[]⟩, .int .i64 0] 27)
  have hG1 := Glob.below hG hal
  have hT1 := TB.below hT hal
  have AL := Lib.hid hal
  have NW := Lib.hid hnew
  have GL := Lib.hid hG1
  have TL := Lib.hid hT1
  clear hal hnew hG1 hT1 hT hG
  cases hv : isV v with
  | false =>
    have HV := Lib.hid hv
    rw [hv] at key
    have KEY := Lib.hid key
    clear key hv
    go_enter Tryd.func32, Tryd.ntmps32
    go_upto_region 1 with fail
    generalize w.alloc _ = w1 at AL NW GL TL ⊢
    go_upto_region 2 with (go_at_call 31; refine (KEY.out _).mono ?_; rintro e w2 ⟨rfl, hb2⟩; have B2 := Lib.hid (AL.out.trans (below_lower hb2 AL.out.size)); have N2 := Lib.hid (blk_below NW.out hb2); clear hb2)
    have hc0 := (blk_cell N2.out 0).trans rfl
    have hc1 := (blk_cell N2.out 1).trans rfl
    have hc2 := (blk_cell N2.out 2).trans rfl
    have hc3 := (blk_cell N2.out 3).trans rfl
    have hf0 := blk_frozen N2.out 0
    have hf1 := blk_frozen N2.out 1
    have hf2 := blk_frozen N2.out 2
    have hf3 := blk_frozen N2.out 3
    go_wp2
    have Z3 := Lib.hid (blk_put4 (b0 := .string ⟨#[]⟩) (b1 := .string ⟨#[]⟩) (b2 := .string ⟨#[]⟩) (b3 := .int .i64 0) N2.out)
    have B3 := Lib.hid (below_put4 (b0 := .string ⟨#[]⟩) (b1 := .string ⟨#[]⟩) (b2 := .string ⟨#[]⟩) (b3 := .int .i64 0) B2.out (Nat.le_refl _))
    clear hc0 hc1 hc2 hc3 hf0 hf1 hf2 hf3
    generalize World.setCell _ _ _ = w3 at Z3 B3 ⊢
    (try simp only [Exit.inBlock, Exit.then])
    refine bodyPost_ret (results_cell_row_tmp rfl _ _ w.heap.size 27 _ (0, 0) _ rfl Z3.out hu27 rfl (by kernel_rfl)) rfl ?_
    exact ⟨⟨zb, false, rfl, .inl ⟨rfl, rfl, by unfold whyB; rw [HV.out, Bool.false_and]⟩⟩, B3.out⟩
  | true =>
    have HV := Lib.hid hv
    rw [hv] at key
    have KEY := Lib.hid key
    have LN := Lib.hid (line_ok p)
    clear key hv
    go_enter Tryd.func32, Tryd.ntmps32
    go_upto_region 1 with fail
    generalize w.alloc _ = w1 at AL NW GL TL ⊢
    go_upto_region 3 with (go_at_call 31; refine (KEY.out _).mono ?_; rintro e w2 ⟨rfl, hb2⟩; have B2 := Lib.hid (AL.out.trans (below_lower hb2 AL.out.size)); have N2 := Lib.hid (blk_below NW.out hb2); have T2 := Lib.hid (TB.below TL.out hb2); have G2 := Lib.hid (Glob.below GL.out hb2); clear hb2)
    go_upto_region 5 with (go_at_call 12; refine (LN.out _ G2.out).mono ?_; rintro e w3 ⟨v0, rfl, hr, hb3⟩; obtain ⟨A0, c0, rfl⟩ := Kd.R_slice hr; have C3 := Aside0.mk (Kd.R_reads' hr).2.2; have B3 := Lib.hid (B2.out.trans (below_lower hb3 B2.out.size)); have N3 := Lib.hid (blk_below N2.out hb3); have T3 := Lib.hid (TB.below T2.out hb3); clear hb3 hr)
    clear AL NW GL TL B2 N2 T2 G2 KEY LN
    generalize (lineS p).2 = le
    obtain ⟨l, hl⟩ : ∃ l, l = (lineS p).1 := ⟨_, rfl⟩
    have HLL := Lib.hid (line_len p)
    rw [← hl] at C3 HLL ⊢
    have HL := Lib.hid hl
    clear hl
    go_loopg [29] l.length (fun g v29 wr => ∃ (i : Nat), v29 = .int .i64 (i : Int) ∧ Aside0 (i + g = l.length) ∧ Aside0 (∀ a ∈ l.take i, hasAt M s v a = false) ∧ Aside0 (Below w3.heap.size w3 wr))
    case atStart => exact ⟨0, rfl, ⟨by omega⟩, ⟨by simp⟩, ⟨Below.refl _ _⟩⟩
    case round =>
      obtain ⟨i, rfl, HG, HN, HBw⟩ := hrel
      by_cases hi : i < l.length
      · have hfc := Kd.at_string (Kd.C_below C3.out HBw.out) (i : Int) (by omega) (by omega)
        obtain ⟨ad, e115, hx115⟩ := hfc
        cases e115
        obtain ⟨q, hq⟩ : ∃ q, q = rdOf ByteArray.empty l (i : Int) := ⟨_, rfl⟩
        rw [← hq, Int.toNat_natCast] at hx115
        have HQ := Lib.hid (show l.take (i + 1) = l.take i ++ [q] ∧ l = l.take i ++ q :: l.drop (i + 1) by rw [hq, rd_at _ i hi]; exact ⟨List.take_succ_eq_append_getElem hi, by conv => lhs; rw [← List.take_append_drop i l, List.drop_eq_getElem_cons hi]⟩)
        clear hq
        have p115 : (0 ≤ (i : Int)) = True := eq_true (by omega)
        have q115 : ((i : Int) < (l.length : Int)) = True := eq_true (by omega)
        have qd : decide ((i : Int) < (l.length : Int)) = true := decide_eq_true (by omega)
        obtain ⟨g0, rfl⟩ : ∃ g0, gk = g0 + 1 := ⟨gk - 1, by have := HG.out; omega⟩
        have HI := Lib.hid hi
        clear hi
        go_upto_region 9 with fail
        have hbl := (Below.refl wr.heap.size wr).alloc (Nat.le_refl _) (.cells #[.string ⟨#[]⟩, .string ⟨#[]⟩, .string ⟨#[]⟩, .int .i64 0] 27)
        have B4 := Lib.hid (HBw.out.trans (below_lower hbl HBw.out.size))
        have T4 := Lib.hid (TB.belowB T3.out B4.out T3.out.lt.1 T3.out.lt.2)
        have Z4 := Lib.hid (blk_new wr (.cells #[.string ⟨#[]⟩, .string ⟨#[]⟩, .string ⟨#[]⟩, .int .i64 0] 27))
        obtain ⟨bb, hbb⟩ : ∃ bb, bb = wr.heap.size := ⟨_, rfl⟩
        have HBB := Lib.hid (show w3.heap.size ≤ bb by rw [hbb]; exact HBw.out.size)
        rw [← hbb] at Z4 ⊢
        clear hbl hx115 p115 q115 qd hbb
        generalize wr.alloc _ = w4 at B4 T4 Z4 ⊢
        obtain ⟨o4, hr4, hR4⟩ := T4.out.holds.range (P := Tryd.prog) (T := 66) (eT := 27) (kT := 70) Tryd.underlying66
        have hc4 := T4.out.cell
        have R4 := Aside0.mk hR4
        clear hR4
        go_upto_region 10 with fail
        have B5 := Aside0.mk (B4.out.alloc B4.out.size o4)
        have Z5 := Aside0.mk (blk_alloc Z4.out o4)
        obtain ⟨rr, hrr⟩ : ∃ rr, rr = w4.heap.size := ⟨_, rfl⟩
        have HRR := Lib.hid (show bb < rr by rw [hrr]; exact blk_lt Z4.out)
        rw [← hrr] at R4 ⊢
        clear hr4 hc4 hrr B4 T4 Z4
        generalize w4.alloc o4 = w5 at R4 B5 Z5 ⊢
        go_loopg [15] M.length (fun g v15 wq => ∃ (c : Bnd) (fd : Bool) (L : Tab), v15 = .bool fd ∧ L.length ≤ g ∧ Aside0 (Ranging eK eV wq b rr M L) ∧ Aside0 (wq.heap[bb]? = some (.cells #[.string c.path, .string c.name, .string c.subject, .int .i64 c.verb] 27 (0, 0))) ∧ Aside0 (Below w3.heap.size w3 wq) ∧ Aside0 (Best M L s v q c fd))
        case atStart => exact ⟨zb, false, M, rfl, Nat.le_refl _, R4, Z5, B5, ⟨Best.start M s v q⟩⟩
        case round =>
          clear R4 Z5 B5
          obtain ⟨c, fd, L, rfl, hg, HRg, HZ, HB, HBest⟩ := hrel
          rcases HRg.out.next (P := Tryd.prog) 0 with ⟨hL, hrun⟩ | ⟨A, pr, B, hL, wd, o2, hwd, hrun, hat⟩
          · subst hL
            cases fd with
            | false =>
              go_wp2
              go_roundg g0
              case measure => omega
              case rel => exact ⟨i + 1, by (have := HI.out; have := HLL.out; rw [w64 i (by omega)]), ⟨by have := HG.out; omega⟩, ⟨by rw [HQ.out.1]; intro a ha; rcases List.mem_append.1 ha with ha | ha; exact HN.out a ha; rw [List.mem_singleton.1 ha]; exact HBest.out.none⟩, HB⟩
            | true =>
              have N4 := Lib.hid ((HB.out.block _ (blk_lt N3.out)).trans N3.out)
              have hb0 := (blk_cell HZ.out 0).trans rfl
              have hb1 := (blk_cell HZ.out 1).trans rfl
              have hb2 := (blk_cell HZ.out 2).trans rfl
              have hb3 := (blk_cell HZ.out 3).trans rfl
              have hc0 := (blk_cell N4.out 0).trans rfl
              have hc1 := (blk_cell N4.out 1).trans rfl
              have hc2 := (blk_cell N4.out 2).trans rfl
              have hc3 := (blk_cell N4.out 3).trans rfl
              have hf0 := blk_frozen N4.out 0
              have hf1 := blk_frozen N4.out 1
              have hf2 := blk_frozen N4.out 2
              have hf3 := blk_frozen N4.out 3
              go_wp2
              have Z4 := Lib.hid (blk_put4 (b0 := .string c.path) (b1 := .string c.name) (b2 := .string c.subject) (b3 := .int .i64 c.verb) N4.out)
              have B4 := Lib.hid (below_put4 (b0 := .string c.path) (b1 := .string c.name) (b2 := .string c.subject) (b3 := .int .i64 c.verb) (B3.out.trans (below_lower HB.out B3.out.size)) (Nat.le_refl _))
              clear hc0 hc1 hc2 hc3 hf0 hf1 hf2 hf3 hb0 hb1 hb2 hb3
              generalize World.setCell _ _ _ = w6 at Z4 B4 ⊢
              (try simp only [Exit.inBlock, Exit.then])
              refine bodyPost_ret (results_cell_row_tmp rfl _ _ w.heap.size 27 _ (0, 0) _ rfl Z4.out hu27 rfl (by kernel_rfl)) rfl ?_
              refine ⟨⟨c, true, rfl, .inr ⟨rfl, HV.out, l.take i, q, l.drop (i + 1), ?_, HN.out, HBest.out.found⟩⟩, B4.out⟩
              rw [← HL.out]; exact HQ.out.2
          · subst hL
            cases gk with
            | zero => simp at hg
            | succ g =>
              have hent := hat.entry (P := Tryd.prog)
              have hbs : Below w3.heap.size w3 (setBlock wd rr o2) := by
                have hd : Below w3.heap.size w3 wd := by rcases hwd with rfl | rfl; exact HB.out; exact below_drew1 HB.out
                exact ⟨hd.os, hd.tape, hd.output, by rw [set_size]; exact hd.size, fun k hk => by rw [set_far _ _ _ _ (by have := HBB.out; have := HRR.out; omega)]; exact hd.block k hk⟩
              have hzs : (setBlock wd rr o2).heap[bb]? = some (.cells #[.string c.path, .string c.name, .string c.subject, .int .i64 c.verb] 27 (0, 0)) := by
                rw [set_far _ _ _ _ (by have := HRR.out; omega)]
                rcases hwd with rfl | rfl <;> exact HZ.out
              have hin := Ranging_in HRg.out (x := pr) (by simp)
              have HBS := Lib.hid hbs
              have HZS := Lib.hid hzs
              have HAT := Lib.hid hat
              have HIN := Lib.hid hin
              clear hbs hat hwd hzs hin HRg HZ HB
              unfold eK eV at hrun hent
              generalize setBlock wd rr o2 = w6 at HBS HZS HAT hrun hent
              obtain ⟨⟨kp, kn⟩, ⟨vp, vn, vs, vv⟩⟩ := pr
              go_upto_region 12 with fail
              have A7 := Aside0.mk (Ranging_alloc (Ranging_alloc HAT.out.on (.cells #[.string kp, .string kn] 70)) (.cells #[.string vp, .string vn, .string vs, .int .i64 vv] 27))
              have B7 := Aside0.mk ((HBS.out.alloc HBS.out.size (.cells #[.string kp, .string kn] 70)).alloc (HBS.out.alloc HBS.out.size (.cells #[.string kp, .string kn] 70)).size (.cells #[.string vp, .string vn, .string vs, .int .i64 vv] 27))
              have Z7 := Aside0.mk (blk_alloc (blk_alloc HZS.out (.cells #[.string kp, .string kn] 70)) (.cells #[.string vp, .string vn, .string vs, .int .i64 vv] 27))
              have K7 := Aside0.mk (blk_alloc (blk_new w6 (.cells #[.string kp, .string kn] 70)) (.cells #[.string vp, .string vn, .string vs, .int .i64 vv] 27))
              have V7 := Aside0.mk (blk_new (w6.alloc (.cells #[.string kp, .string kn] 70)) (.cells #[.string vp, .string vn, .string vs, .int .i64 vv] 27))
              rw [show (w6.alloc (.cells #[.string kp, .string kn] 70)).heap.size = w6.heap.size + 1 by simp] at V7
              obtain ⟨kk, hkk⟩ : ∃ kk, kk = w6.heap.size := ⟨_, rfl⟩
              obtain ⟨vb, hvb⟩ : ∃ vb, vb = w6.heap.size + 1 := ⟨_, rfl⟩
              rw [← hvb] at V7
              rw [← hkk] at K7
              rw [← hkk, show kk + 1 = vb by rw [hkk, hvb]]
              clear hkk hvb HAT HBS HZS hrun hent
              generalize World.alloc (World.alloc _ _) _ = w7 at A7 B7 Z7 K7 V7 ⊢
              have hk0 := (blk_cell K7.out 0).trans rfl
              have hv0 := (blk_cell V7.out 0).trans rfl
              have hv1 := (blk_cell V7.out 1).trans rfl
              have hv2 := (blk_cell V7.out 2).trans rfl
              have hv3 := (blk_cell V7.out 3).trans rfl
              have hb1 := (blk_cell Z7.out 1).trans rfl
              by_cases c1 : kp = q
              rotate_left
              · have e1 : (kp.toList == q.toList) = false := by rw [toList_beq, Bool.eq_false_iff, Ne, ba_beq]; exact c1
                go_wp2
                go_roundg g
                case measure => omega
                case rel => exact ⟨c, fd, A ++ B, rfl, by simp at hg ⊢; omega, A7, Z7, B7, ⟨HBest.out.skip (fun hm => absurd hm.1 c1)⟩⟩
              by_cases c2 : vs = s
              rotate_left
              · have e1 : (kp.toList == q.toList) = true := by rw [toList_beq, ba_beq]; exact c1
                have e2 : (vs.toList == s.toList) = false := by rw [toList_beq, Bool.eq_false_iff, Ne, ba_beq]; exact c2
                go_wp2
                go_roundg g
                case measure => omega
                case rel => exact ⟨c, fd, A ++ B, rfl, by simp at hg ⊢; omega, A7, Z7, B7, ⟨HBest.out.skip (fun hm => absurd hm.2.1 c2)⟩⟩
              by_cases c3 : v ≤ vv
              rotate_left
              · have e1 : (kp.toList == q.toList) = true := by rw [toList_beq, ba_beq]; exact c1
                have e2 : (vs.toList == s.toList) = true := by rw [toList_beq, ba_beq]; exact c2
                have e3 : decide (vv ≥ v) = false := decide_eq_false c3
                go_wp2
                go_roundg g
                case measure => omega
                case rel => exact ⟨c, fd, A ++ B, rfl, by simp at hg ⊢; omega, A7, Z7, B7, ⟨HBest.out.skip (fun hm => absurd hm.2.2 (by first | exact c3 | exact Int.not_le.2 c3))⟩⟩
              have e1 : (kp.toList == q.toList) = true := by rw [toList_beq, ba_beq]; exact c1
              have e2 : (vs.toList == s.toList) = true := by rw [toList_beq, ba_beq]; exact c2
              have e3 : decide (vv ≥ v) = true := decide_eq_true c3
              subst c2
              have hb0 := (blk_cell Z7.out 0).trans rfl
              have hb2 := (blk_cell Z7.out 2).trans rfl
              have hb3 := (blk_cell Z7.out 3).trans rfl
              have hf0 := blk_frozen Z7.out 0
              have hf1 := blk_frozen Z7.out 1
              have hf2 := blk_frozen Z7.out 2
              have hf3 := blk_frozen Z7.out 3
              cases fd with
              | false =>
                go_wp2
                go_roundg g
                case measure => omega
                case rel => exact ⟨⟨vp, vn, _, vv⟩, true, A ++ B, rfl, by simp at hg ⊢; omega, ⟨A7.out.move (heap_put4 (by have := HBB.out; have := T3.out.lt.2; omega)) (heap_put4 (by have := HRR.out; omega))⟩, ⟨blk_put4 Z7.out⟩, ⟨below_put4 B7.out HBB.out⟩, ⟨HBest.out.take HIN.out ⟨c1, rfl, c3⟩ (fun h => (by cases h))⟩⟩
              | true =>
                cases e4 : Op.bytesLess vn.toList c.name.toList with
                | true =>
                  go_wp2
                  go_roundg g
                  case measure => omega
                  case rel => exact ⟨⟨vp, vn, _, vv⟩, true, A ++ B, rfl, by simp at hg ⊢; omega, ⟨A7.out.move (heap_put4 (by have := HBB.out; have := T3.out.lt.2; omega)) (heap_put4 (by have := HRR.out; omega))⟩, ⟨blk_put4 Z7.out⟩, ⟨below_put4 B7.out HBB.out⟩, ⟨HBest.out.take HIN.out ⟨c1, rfl, c3⟩ (fun _ => e4)⟩⟩
                | false =>
                  go_wp2
                  go_roundg g
                  case measure => omega
                  case rel => exact ⟨c, true, A ++ B, rfl, by simp at hg ⊢; omega, A7, Z7, B7, ⟨HBest.out.skip (fun hm => ⟨rfl, e4⟩)⟩⟩
      · have qd : decide ((i : Int) < (l.length : Int)) = false := decide_eq_false (by omega)
        have HI := Lib.hid hi
        clear hi
        have N4 := Lib.hid ((HBw.out.block _ (blk_lt N3.out)).trans N3.out)
        have hc0 := (blk_cell N4.out 0).trans rfl
        have hc1 := (blk_cell N4.out 1).trans rfl
        have hc2 := (blk_cell N4.out 2).trans rfl
        have hc3 := (blk_cell N4.out 3).trans rfl
        have hf0 := blk_frozen N4.out 0
        have hf1 := blk_frozen N4.out 1
        have hf2 := blk_frozen N4.out 2
        have hf3 := blk_frozen N4.out 3
        go_wp2
        have Z4 := Lib.hid (blk_put4 (b0 := .string ⟨#[]⟩) (b1 := .string ⟨#[]⟩) (b2 := .string ⟨#[]⟩) (b3 := .int .i64 0) N4.out)
        have B4 := Lib.hid (below_put4 (b0 := .string ⟨#[]⟩) (b1 := .string ⟨#[]⟩) (b2 := .string ⟨#[]⟩) (b3 := .int .i64 0) (B3.out.trans (below_lower HBw.out B3.out.size)) (Nat.le_refl _))
        clear hc0 hc1 hc2 hc3 hf0 hf1 hf2 hf3
        generalize World.setCell _ _ _ = w4 at Z4 B4 ⊢
        (try simp only [Exit.inBlock, Exit.then])
        refine bodyPost_ret (results_cell_row_tmp rfl _ _ w.heap.size 27 _ (0, 0) _ rfl Z4.out hu27 rfl (by kernel_rfl)) rfl ?_
        refine ⟨⟨zb, false, rfl, .inl ⟨rfl, rfl, ?_⟩⟩, B4.out⟩
        unfold whyB
        rw [HV.out, Bool.true_and, ← HL.out, List.any_eq_false]
        intro a ha
        rw [HN.out a (by rw [List.take_of_length_le (by have := HI.out; omega)]; exact ha)]
        decide
end Go.Proofs.YtphddbijdfmpjaaDoor.Wr
namespace Go.Proofs.YtphddbijdfmpjaaDoor.Wr
open Go.RowKit Go.MapRaw Go.Proofs.YtphddbijdfmpjaaDoorW.PrintWords Go.Proofs.YtphddbijdfmpjaaDoorW.PrintLast Go.Proofs.YtphddbijdfmpjaaDoor.Q
open Go.ChangeMaps (setBlock)
set_option linter.unusedVariables false
set_option linter.unusedSimpArgs false
theorem root_list : ([114, 111, 111, 116] : List UInt8) = rootS.toList := by rw [ByteArray.toList_eq]; rfl
set_option maxRecDepth 100000 in
set_option maxHeartbeats 8000000 in
theorem may_ok (w : World) (t b : Nat) (M : Tab) (s : ByteArray) (v : Int) (p : ByteArray) (hT : TB w t b M) (hG : Glob w) :
    Calls Tryd.prog 13 #[.pointer (some ⟨t, 0, none⟩), .string s, .int .i64 v, .string p] w fun e w' => e = .returned (.bool (mayB M s v p)) ∧ Below w.heap.size w w' := by
  have hu27 := Tryd.underlying27
  by_cases hs : s = rootS
  · have hM : mayB M s v p = (isV v && decide (pathS p = 0)) := by unfold mayB; rw [if_pos hs]
    rw [hM]
    have hr : (s.toList == ([114, 111, 111, 116] : List UInt8)) = true := by rw [root_list, toList_beq, ba_beq]; exact hs
    have key := verb_ok v
    have hp := path_ok p
    have GL := Lib.hid hG
    clear hM hT hs hG
    cases hv : isV v with
    | false =>
      rw [hv] at key
      have KEY := Lib.hid key
      clear hp key hv
      go_enter Tryd.func13, Tryd.ntmps13
      go_wp2_with (go_at_call 31; refine (KEY.out _).mono ?_; rintro e w2 ⟨rfl, hb2⟩; have B2 := Lib.hid hb2; clear hb2)
      go_ret
      exact ⟨rfl, B2.out⟩
    | true =>
      rw [hv] at key
      have KEY := Lib.hid key
      have PK := Lib.hid hp
      clear hp key hv
      rcases line_cases p with ⟨h0, _⟩ | ⟨h0, _⟩
      · rw [h0] at PK ⊢
        go_enter Tryd.func13, Tryd.ntmps13
        go_wp2_with (first | (go_at_call 31; refine (KEY.out _).mono ?_; rintro e w2 ⟨rfl, hb2⟩; have B2 := Lib.hid hb2; clear hb2) | (go_at_call 19; refine (PK.out _ (Glob.below GL.out B2.out)).mono ?_; rintro e w3 ⟨rfl, hb3⟩; have B3 := Lib.hid (B2.out.trans (below_lower hb3 B2.out.size)); clear hb3))
        go_ret
        exact ⟨rfl, B3.out⟩
      · rw [h0] at PK ⊢
        go_enter Tryd.func13, Tryd.ntmps13
        go_wp2_with (first | (go_at_call 31; refine (KEY.out _).mono ?_; rintro e w2 ⟨rfl, hb2⟩; have B2 := Lib.hid hb2; clear hb2) | (go_at_call 19; refine (PK.out _ (Glob.below GL.out B2.out)).mono ?_; rintro e w3 ⟨rfl, hb3⟩; have B3 := Lib.hid (B2.out.trans (below_lower hb3 B2.out.size)); clear hb3))
        go_ret
        exact ⟨rfl, B3.out⟩
  · have hM : mayB M s v p = whyB M s v p := by unfold mayB; rw [if_neg hs]
    rw [hM]
    have hr : (s.toList == ([114, 111, 111, 116] : List UInt8)) = false := by rw [root_list, toList_beq, Bool.eq_false_iff, Ne, ba_beq]; exact hs
    have KEY := Lib.hid (why_ok w t b M s v p hT hG)
    clear hM hT hs hG
    go_enter Tryd.func13, Tryd.ntmps13
    go_wp2_with (go_at_call 32; refine KEY.out.mono ?_; rintro e w2 ⟨⟨⟨cp, cn, cs, cv⟩, fd, rfl, hw⟩, hb2⟩; have HF := Lib.hid hw.found; have B2 := Lib.hid hb2; unfold eV; clear hb2 hw)
    go_ret
    exact ⟨by rw [← HF.out] <;> rfl, B2.out.trans (below_lower ((Below.refl _ _).alloc (Nat.le_refl _) _) B2.out.size)⟩
end Go.Proofs.YtphddbijdfmpjaaDoor.Wr
namespace Go.Proofs.YtphddbijdfmpjaaDoor.Wr
open Go.RowKit Go.MapRaw Go.Proofs.YtphddbijdfmpjaaDoorW.PrintWords Go.Proofs.YtphddbijdfmpjaaDoorW.PrintLast Go.Proofs.YtphddbijdfmpjaaDoor.Q
open Go.ChangeMaps (setBlock)
set_option linter.unusedVariables false
set_option linter.unusedSimpArgs false
def b0 : Bnd := ⟨⟨#[47, 97]⟩, ⟨#[119]⟩, ⟨#[97, 110, 110]⟩, 1⟩
def M0 : Tab := [((⟨#[47, 97]⟩, ⟨#[119]⟩), b0)]
theorem b0_formed : formedB b0 = true := by decide +kernel
theorem set_b0 : setE [] b0 = 0 := by unfold setE; rw [if_pos b0_formed, if_neg (by decide)]
theorem setM_b0 : setM [] b0 = M0 := by unfold setM; rw [if_pos set_b0]; rfl
theorem drop_b0 : dropE M0 ⟨#[47, 97]⟩ ⟨#[119]⟩ = 0 := by decide +kernel
theorem dropM_b0 : dropM M0 ⟨#[47, 97]⟩ ⟨#[119]⟩ = [] := by unfold dropM; rw [if_pos drop_b0]; decide +kernel
theorem may1 : mayB M0 ⟨#[97, 110, 110]⟩ 0 ⟨#[47, 97, 47, 98]⟩ = true := by decide +kernel
theorem may2 : mayB M0 ⟨#[97, 110, 110]⟩ 1 ⟨#[47, 97]⟩ = true := by decide +kernel
theorem may3 : mayB M0 ⟨#[97, 110, 110]⟩ 2 ⟨#[47, 97]⟩ = false := by decide +kernel
theorem may4 : mayB M0 ⟨#[97, 110, 110]⟩ 0 ⟨#[47, 97, 98]⟩ = false := by decide +kernel
theorem may5 : mayB M0 ⟨#[98, 111, 98]⟩ 0 ⟨#[47, 97]⟩ = false := by decide +kernel
theorem may6 : mayB [] ⟨#[97, 110, 110]⟩ 0 ⟨#[47, 97]⟩ = false := by decide +kernel
theorem may7 : mayB [] ⟨#[114, 111, 111, 116]⟩ 3 ⟨#[47, 97]⟩ = true := by decide +kernel
end Go.Proofs.YtphddbijdfmpjaaDoor.Wr
namespace Go.Proofs.YtphddbijdfmpjaaDoor.Wr
open Go.RowKit Go.MapRaw Go.Proofs.YtphddbijdfmpjaaDoorW.PrintWords Go.Proofs.YtphddbijdfmpjaaDoorW.PrintLast Go.Proofs.YtphddbijdfmpjaaDoor.Q
open Go.ChangeMaps (setBlock)
set_option linter.unusedVariables false
set_option linter.unusedSimpArgs false
theorem may_lit {ar : Array Value} {w : World} {x y : Bool} (h : Calls Tryd.prog 13 ar w fun e w' => e = .returned (.bool x) ∧ Below w.heap.size w w') (e : x = y) : Calls Tryd.prog 13 ar w fun e w' => e = .returned (.bool y) ∧ Below w.heap.size w w' := by rw [← e]; exact h
theorem set_lit {w : World} {t b : Nat} (hT : TB w t b []) (hG : Glob w) : Calls Tryd.prog 20 #[.pointer (some ⟨t, 0, none⟩), .agg #[.string ⟨#[47, 97]⟩, .string ⟨#[119]⟩, .string ⟨#[97, 110, 110]⟩, .int .i64 1]] w fun e w' => e = .returned (.int .i64 0) ∧ TB w' t b M0 ∧ Off b w w' := by
  have h := set_ok w t b [] b0 hT hG (by simp)
  rw [set_b0, setM_b0] at h
  exact h
theorem drop_lit {w : World} {t b : Nat} (hT : TB w t b M0) (hG : Glob w) : Calls Tryd.prog 21 #[.pointer (some ⟨t, 0, none⟩), .string ⟨#[47, 97]⟩, .string ⟨#[119]⟩] w fun e w' => e = .returned (.int .i64 0) ∧ TB w' t b [] ∧ Off b w w' := by
  have h := drop_ok w t b M0 ⟨#[47, 97]⟩ ⟨#[119]⟩ hT hG
  rw [drop_b0, dropM_b0] at h
  exact h
set_option maxRecDepth 100000 in
set_option maxHeartbeats 8000000 in
theorem lives_ok (w : World) (hG : Glob w) : Calls Tryd.prog 10 #[] w fun e w' => ∃ t b, e = .returned (.pointer (some ⟨t, 0, none⟩)) ∧ TB w' t b [] ∧ w.heap.size ≤ t ∧ w.heap.size ≤ b ∧ Below w.heap.size w w' := by
  have NEW := Lib.hid (newT_ok w)
  have K1 := Lib.hid (fun t b w' (hT : TB w' t b M0) hG => may_lit (may_ok w' t b M0 ⟨#[97, 110, 110]⟩ 0 ⟨#[47, 97, 47, 98]⟩ hT hG) may1)
  have K2 := Lib.hid (fun t b w' (hT : TB w' t b M0) hG => may_lit (may_ok w' t b M0 ⟨#[97, 110, 110]⟩ 1 ⟨#[47, 97]⟩ hT hG) may2)
  have K3 := Lib.hid (fun t b w' (hT : TB w' t b M0) hG => may_lit (may_ok w' t b M0 ⟨#[97, 110, 110]⟩ 2 ⟨#[47, 97]⟩ hT hG) may3)
  have K4 := Lib.hid (fun t b w' (hT : TB w' t b M0) hG => may_lit (may_ok w' t b M0 ⟨#[97, 110, 110]⟩ 0 ⟨#[47, 97, 98]⟩ hT hG) may4)
  have K5 := Lib.hid (fun t b w' (hT : TB w' t b M0) hG => may_lit (may_ok w' t b M0 ⟨#[98, 111, 98]⟩ 0 ⟨#[47, 97]⟩ hT hG) may5)
  have K6 := Lib.hid (fun t b w' (hT : TB w' t b []) hG => may_lit (may_ok w' t b [] ⟨#[97, 110, 110]⟩ 0 ⟨#[47, 97]⟩ hT hG) may6)
  have K7 := Lib.hid (fun t b w' (hT : TB w' t b []) hG => may_lit (may_ok w' t b [] ⟨#[114, 111, 111, 116]⟩ 3 ⟨#[47, 97]⟩ hT hG) may7)
  go_enter Tryd.func10, Tryd.ntmps10
  go_upto_region 2 with (go_at_call 29; refine NEW.out.mono ?_; rintro e w1 ⟨t, b, rfl, hT, ht, hb, hb1⟩; have B1 := Lib.hid hb1; have T1 := Lib.hid hT; have HT := Lib.hid ht; have HB := Lib.hid hb; clear hT ht hb hb1)
  clear NEW
  go_upto_region 4 with (go_at_call 20; refine (set_lit T1.out (Glob.below hG B1.out)).mono ?_; rintro e w2 ⟨rfl, hT, ho⟩; have B2 := Lib.hid (B1.out.trans (ho.belowB HB.out B1.out.size)); have T2 := Lib.hid hT; clear hT ho T1)
  replace K1 := Lib.hid (K1.out t b)
  replace K2 := Lib.hid (K2.out t b)
  replace K3 := Lib.hid (K3.out t b)
  replace K4 := Lib.hid (K4.out t b)
  replace K5 := Lib.hid (K5.out t b)
  replace K6 := Lib.hid (K6.out t b)
  replace K7 := Lib.hid (K7.out t b)
  go_upto_region 6 with (first
    | (go_at_call 13; (with_reducible refine (K1.out _ T2.out (Glob.below hG B2.out)).mono ?_); rintro e w3 ⟨rfl, hb⟩; have B3 := Lib.hid (B2.out.trans (below_lower hb B2.out.size)); have T3 := Lib.hid (T2.out.below hb); clear hb T2)
    | (go_at_call 13; (with_reducible refine (K2.out _ T3.out (Glob.below hG B3.out)).mono ?_); rintro e w4 ⟨rfl, hb⟩; have B4 := Lib.hid (B3.out.trans (below_lower hb B3.out.size)); have T4 := Lib.hid (T3.out.below hb); clear hb T3)
    | (go_at_call 13; (with_reducible refine (K3.out _ T4.out (Glob.below hG B4.out)).mono ?_); rintro e w5 ⟨rfl, hb⟩; have B5 := Lib.hid (B4.out.trans (below_lower hb B4.out.size)); have T5 := Lib.hid (T4.out.below hb); clear hb T4)
    | (go_at_call 13; (with_reducible refine (K4.out _ T5.out (Glob.below hG B5.out)).mono ?_); rintro e w6 ⟨rfl, hb⟩; have B6 := Lib.hid (B5.out.trans (below_lower hb B5.out.size)); have T6 := Lib.hid (T5.out.below hb); clear hb T5)
    | (go_at_call 13; (with_reducible refine (K5.out _ T6.out (Glob.below hG B6.out)).mono ?_); rintro e w7 ⟨rfl, hb⟩; have B7 := Lib.hid (B6.out.trans (below_lower hb B6.out.size)); have T7 := Lib.hid (T6.out.below hb); clear hb T6))
  go_wp2_with (first
    | (go_at_call 21; refine (drop_lit T7.out (Glob.below hG B7.out)).mono ?_; rintro e w8 ⟨rfl, hT, ho⟩; have B8 := Lib.hid (B7.out.trans (ho.belowB HB.out B7.out.size)); have T8 := Lib.hid hT; clear hT ho T7)
    | (go_at_call 13; (with_reducible refine (K6.out _ T8.out (Glob.below hG B8.out)).mono ?_); rintro e w9 ⟨rfl, hb⟩; have B9 := Lib.hid (B8.out.trans (below_lower hb B8.out.size)); have T9 := Lib.hid (T8.out.below hb); clear hb T8)
    | (go_at_call 13; (with_reducible refine (K7.out _ T9.out (Glob.below hG B9.out)).mono ?_); rintro e w10 ⟨rfl, hb⟩; have B10 := Lib.hid (B9.out.trans (below_lower hb B9.out.size)); have T10 := Lib.hid (T9.out.below hb); clear hb T9))
  go_ret
  exact ⟨t, b, rfl, T10.out, HT.out, HB.out, B10.out⟩
end Go.Proofs.YtphddbijdfmpjaaDoor.Wr
namespace Go.Proofs.YtphddbijdfmpjaaDoor.Wr
open Go.RowKit Go.MapRaw Go.Proofs.YtphddbijdfmpjaaDoorW.PrintWords Go.Proofs.YtphddbijdfmpjaaDoorW.PrintLast Go.Proofs.YtphddbijdfmpjaaDoor.Q
open Go.ChangeMaps (setBlock)
set_option linter.unusedVariables false
set_option linter.unusedSimpArgs false
structure OpV where
  two : Bool
  kind : Int
  verb : Int
  b : Bnd
  path : ByteArray
  name : ByteArray
  subject : ByteArray
def oCells (o : OpV) : List Value := [.bool o.two, .int .i64 o.kind, .int .i64 o.verb, .string o.b.path, .string o.b.name, .string o.b.subject, .int .i64 o.b.verb, .string o.path, .string o.name, .string o.subject]
def eO (o : OpV) : Value := .agg #[.bool o.two, .int .i64 o.kind, .int .i64 o.verb, .string o.b.path, .string o.b.name, .string o.b.subject, .int .i64 o.b.verb, .string o.path, .string o.name, .string o.subject]
def playM (M : Tab) (o : OpV) : Tab := if o.kind = 1 then setM M o.b else if o.kind = 2 then dropM M o.path o.name else if o.kind = 3 then leaveM o.path M else M
theorem playM_len (M : Tab) (o : OpV) : (playM M o).length ≤ M.length + 1 := by
  unfold playM
  split
  · exact setM_len M o.b
  · split
    · have := dropM_len M o.path o.name; omega
    · split
      · have := leaveM_len o.path M; omega
      · omega
set_option maxRecDepth 100000 in
set_option maxHeartbeats 8000000 in
theorem play_ok (w : World) (t b : Nat) (M : Tab) (o : OpV) (hT : TB w t b M) (hG : Glob w) (hM : M.length ≤ 1000000) :
    Calls Tryd.prog 11 #[.pointer (some ⟨t, 0, none⟩), eO o] w fun e w' => e = .returned (.tuple #[]) ∧ TB w' t b (playM M o) ∧ Off b w w' := by
  obtain ⟨two, kd, vb, ⟨bp, bn, bs, bv⟩, pa, na, su⟩ := o
  have hu27 := Tryd.underlying27
  have hu29 := Tryd.underlying29
  have hal := (Below.refl w.heap.size w).alloc (Nat.le_refl _) (.cells #[.bool two, .int .i64 kd, .int .i64 vb, .string bp, .string bn, .string bs, .int .i64 bv, .string pa, .string na, .string su] 29)
  have hnew := blk_new w (.cells #[.bool two, .int .i64 kd, .int .i64 vb, .string bp, .string bn, .string bs, .int .i64 bv, .string pa, .string na, .string su] 29)
  have AL := Lib.hid hal
  have NW := Lib.hid hnew
  have GL := Lib.hid (Glob.below hG hal)
  have TL := Lib.hid (TB.below hT hal)
  have HM := Lib.hid hM
  clear hal hnew hG hT hM
  unfold eO
  go_enter Tryd.func11, Tryd.ntmps11
  go_upto_region 1 with fail
  generalize w.alloc _ = w1 at AL NW GL TL ⊢
  have hd0 := (blk_cell NW.out 0).trans rfl
  have hd1 := (blk_cell NW.out 1).trans rfl
  have hd2 := (blk_cell NW.out 2).trans rfl
  have hd3 := (blk_cell NW.out 3).trans rfl
  have hd4 := (blk_cell NW.out 4).trans rfl
  have hd5 := (blk_cell NW.out 5).trans rfl
  have hd6 := (blk_cell NW.out 6).trans rfl
  have hd7 := (blk_cell NW.out 7).trans rfl
  have hd8 := (blk_cell NW.out 8).trans rfl
  have hd9 := (blk_cell NW.out 9).trans rfl
  by_cases c1 : kd = 1
  · have e1 : (kd == 1) = true := beq_iff_eq.2 c1
    have hp : playM M ⟨two, kd, vb, ⟨bp, bn, bs, bv⟩, pa, na, su⟩ = setM M ⟨bp, bn, bs, bv⟩ := by unfold playM; rw [if_pos c1]
    have KEY := Lib.hid (set_ok w1 t b M ⟨bp, bn, bs, bv⟩ TL.out GL.out HM.out)
    have HP := Lib.hid hp
    clear hp
    go_wp2_with (go_at_call 20; refine KEY.out.mono ?_; rintro e w2 ⟨rfl, hT, ho⟩; have T2 := Lib.hid hT; have O2 := Lib.hid ho; clear hT ho)
    go_end0
    exact ⟨rfl, by rw [HP.out]; exact T2.out, (Off.of_below AL.out).trans O2.out⟩
  have e1 : (kd == 1) = false := beq_eq_false_iff_ne.2 c1
  by_cases c2 : kd = 2
  · have e2 : (kd == 2) = true := beq_iff_eq.2 c2
    have hp : playM M ⟨two, kd, vb, ⟨bp, bn, bs, bv⟩, pa, na, su⟩ = dropM M pa na := by unfold playM; rw [if_neg c1, if_pos c2]
    have KEY := Lib.hid (drop_ok w1 t b M pa na TL.out GL.out)
    have HP := Lib.hid hp
    clear hp
    go_wp2_with (go_at_call 21; refine KEY.out.mono ?_; rintro e w2 ⟨rfl, hT, ho⟩; have T2 := Lib.hid hT; have O2 := Lib.hid ho; clear hT ho)
    go_end0
    exact ⟨rfl, by rw [HP.out]; exact T2.out, (Off.of_below AL.out).trans O2.out⟩
  have e2 : (kd == 2) = false := beq_eq_false_iff_ne.2 c2
  by_cases c3 : kd = 3
  · have e3 : (kd == 3) = true := beq_iff_eq.2 c3
    have hp : playM M ⟨two, kd, vb, ⟨bp, bn, bs, bv⟩, pa, na, su⟩ = leaveM pa M := by unfold playM; rw [if_neg c1, if_neg c2, if_pos c3]
    have KEY := Lib.hid (leave_ok w1 t b M pa TL.out HM.out)
    have HP := Lib.hid hp
    clear hp
    go_wp2_with (go_at_call 22; refine KEY.out.mono ?_; rintro e w2 ⟨rfl, hT, ho⟩; have T2 := Lib.hid hT; have O2 := Lib.hid ho; clear hT ho)
    go_end0
    exact ⟨rfl, by rw [HP.out]; exact T2.out, (Off.of_below AL.out).trans O2.out⟩
  have e3 : (kd == 3) = false := beq_eq_false_iff_ne.2 c3
  have hp : playM M ⟨two, kd, vb, ⟨bp, bn, bs, bv⟩, pa, na, su⟩ = M := by unfold playM; rw [if_neg c1, if_neg c2, if_neg c3]
  have HP := Lib.hid hp
  clear hp
  go_wp2
  go_end0
  exact ⟨rfl, by rw [HP.out]; exact TL.out, Off.of_below AL.out⟩
end Go.Proofs.YtphddbijdfmpjaaDoor.Wr
namespace Go.Proofs.YtphddbijdfmpjaaDoor.Q
open Go.RowKit Go.Proofs.YtphddbijdfmpjaaDoorW.PrintWords Go.Proofs.YtphddbijdfmpjaaDoorW.PrintLast Go.ChangeShapes Go.Proofs.YtphddbijdfmpjaaDoor.Wr
set_option linter.unusedVariables false
set_option linter.unusedSimpArgs false
def k27 : Kd Bnd := Kd.iso (Kd.pair Kd.string (Kd.pair Kd.string (Kd.pair Kd.string (Kd.int .i64)))) (fun b => (b.path, b.name, b.subject, b.verb))
def k29 : Kd OpV := Kd.iso (Kd.pair Kd.bool (Kd.pair (Kd.int .i64) (Kd.pair (Kd.int .i64) (Kd.pair k27 (Kd.pair Kd.string (Kd.pair Kd.string Kd.string)))))) (fun o => (o.two, o.kind, o.verb, o.b, o.path, o.name, o.subject))
theorem k29_cells {w : World} {o : OpV} {c : List Value} (h : k29.K w o c) : c = oCells o := by
  obtain ⟨c0, d0, rfl, h0, c1, d1, rfl, h1, c2, d2, rfl, h2, c3, d3, rfl, ⟨b0, e0, rfl, g0, b1, e1, rfl, g1, b2, e2, rfl, g2, g3⟩, c4, d4, rfl, h4, c5, d5, rfl, h5, h6⟩ := h
  have h0' : c0 = [.bool o.two] := h0
  have h1' : c1 = [.int .i64 o.kind] := h1
  have h2' : c2 = [.int .i64 o.verb] := h2
  have g0' : b0 = [.string o.b.path] := g0
  have g1' : b1 = [.string o.b.name] := g1
  have g2' : b2 = [.string o.b.subject] := g2
  have g3' : e2 = [.int .i64 o.b.verb] := g3
  have h4' : c4 = [.string o.path] := h4
  have h5' : c5 = [.string o.name] := h5
  have h6' : d5 = [.string o.subject] := h6
  subst h0' h1' h2' g0' g1' g2' g3' h4' h5' h6'
  rfl
theorem add_off (ad : Addr) (n j : Nat) (hj : j ≠ 0) : ad.add (n + j) = ⟨(ad.add n).block, (ad.add n).off + j, none⟩ := by
  unfold Addr.add
  by_cases hn : n = 0
  · subst hn; simp [hj]
  · simp [hn, Nat.add_assoc]
theorem op_at {w : World} {A : Option Addr} {l : List OpV} (h : k29.C w A l.length l) (i : Nat) (hi : i < l.length) : ∃ ad, A = some ad ∧ w.cell? (ad.add (i * 10)) = some (.bool l[i].two) ∧ ∀ j u, j ≠ 0 → (oCells l[i])[j]? = some u → w.cell? ⟨(ad.add (i * 10)).block, (ad.add (i * 10)).off + j, none⟩ = some u := by
  obtain ⟨ad, c, hA, _, hK, hc⟩ := Kd.C_get h l[i] (i : Int) (by omega) (by omega)
  have hg : l.getD (i : Int).toNat l[i] = l[i] := by rw [Int.toNat_natCast]; simp [hi]
  rw [hg] at hK
  have := k29_cells hK
  subst this
  refine ⟨ad, hA, ?_, fun j u hj hu => ?_⟩
  · have := hc 0 _ rfl
    rw [Int.toNat_natCast] at this
    exact this
  · have := hc j u hu
    rw [Int.toNat_natCast] at this
    rw [← add_off _ _ _ hj]
    exact this
def StrD {H : Type} (x : DataW H) (s : ByteArray) : Prop := x = .lit (.string s.data.toList) ∧ s.size ≤ maxLen
def IntD {H : Type} (x : DataW H) (n : Int) : Prop := x = .lit (.int .i64 n) ∧ (Lit.int .i64 n).wf = true
def BnD {H : Type} (x : DataW H) (b : Bnd) : Prop := ∃ l, x = .agg l ∧ ∃ y r, l = y :: r ∧ StrD y b.path ∧ ∃ y r1, r = y :: r1 ∧ StrD y b.name ∧ ∃ y r2, r1 = y :: r2 ∧ StrD y b.subject ∧ ∃ y, r2 = [y] ∧ IntD y b.verb
def OpD {H : Type} (x : DataW H) (o : OpV) : Prop := ∃ l, x = .agg l ∧ ∃ y r, l = y :: r ∧ y = .lit (.bool o.two) ∧ ∃ y r1, r = y :: r1 ∧ IntD y o.kind ∧ ∃ y r2, r1 = y :: r2 ∧ IntD y o.verb ∧ ∃ y r3, r2 = y :: r3 ∧ BnD y o.b ∧ ∃ y r4, r3 = y :: r4 ∧ StrD y o.path ∧ ∃ y r5, r4 = y :: r5 ∧ StrD y o.name ∧ ∃ y, r5 = [y] ∧ StrD y o.subject
section
variable {H : Type} {enc : TypeId × Value → H} {w : World} {base : Nat} {spare : Nat → Bool} {held : Bool}
theorem opens27 : Opens enc Tryd.prog w base spare held 27 k27 BnD :=
  opens_struct (fun b : Bnd => (b.path, b.name, b.subject, b.verb)) (fun a => ⟨a.1, a.2.1, a.2.2.1, a.2.2.2⟩) (fun _ => rfl) Tryd.underlying27 (by kernel_rfl)
    (opens_cons rfl (by kernel_rfl) (opens_string Tryd.underlying9) (opens_cons rfl (by kernel_rfl) (opens_string Tryd.underlying9) (opens_cons rfl (by kernel_rfl) (opens_string Tryd.underlying9) (opens_one rfl (by kernel_rfl) (opens_int Tryd.underlying3)))))
theorem opens29 : Opens enc Tryd.prog w base spare held 29 k29 OpD :=
  opens_struct (fun o : OpV => (o.two, o.kind, o.verb, o.b, o.path, o.name, o.subject)) (fun a => ⟨a.1, a.2.1, a.2.2.1, a.2.2.2.1, a.2.2.2.2.1, a.2.2.2.2.2.1, a.2.2.2.2.2.2⟩) (fun _ => rfl) Tryd.underlying29 (by kernel_rfl)
    (opens_cons rfl (by kernel_rfl) (opens_bool Tryd.underlying4) (opens_cons rfl (by kernel_rfl) (opens_int Tryd.underlying3) (opens_cons rfl (by kernel_rfl) (opens_int Tryd.underlying3)
      (opens_cons rfl (by kernel_rfl) opens27 (opens_cons rfl (by kernel_rfl) (opens_string Tryd.underlying9) (opens_cons rfl (by kernel_rfl) (opens_string Tryd.underlying9) (opens_one rfl (by kernel_rfl) (opens_string Tryd.underlying9))))))))
end
end Go.Proofs.YtphddbijdfmpjaaDoor.Q
namespace Go.Proofs.YtphddbijdfmpjaaDoor.Q
open Go.RowKit Go.MapRaw Go.Proofs.YtphddbijdfmpjaaDoorW.PrintWords Go.Proofs.YtphddbijdfmpjaaDoorW.PrintLast Go.Proofs.YtphddbijdfmpjaaDoor.Wr
open Go.ChangeMaps (setBlock)
set_option linter.unusedVariables false
set_option linter.unusedSimpArgs false
theorem line_at {w w' : World} {ad : Addr} {l : List ByteArray} (C : Kd.string.C w (some ad) l.length l) (hb : Below w.heap.size w w') {i : Nat} (hi : i < l.length) {q : ByteArray} (hq : q = rdOf ByteArray.empty l (i : Int)) : w'.cell? (ad.add i) = some (.string q) := by
  obtain ⟨ad', e, hx⟩ := Kd.at_string (Kd.C_below C hb) (i : Int) (by omega) (by omega)
  cases e
  rw [← hq, Int.toNat_natCast] at hx
  exact hx
theorem may_less_w {M : Tab} {s q : ByteArray} {v : Nat} (h0 : 0 < v) (h4 : v < 4) (h : mayB M s (v : Int) q = true) : mayB M s (wrap64 ((v : Int) - 1)) q = true := by
  rw [show wrap64 ((v : Int) - 1) = (v : Int) - 1 by unfold wrap64; omega]
  exact may_less (by omega) h
set_option maxRecDepth 100000 in
set_option maxHeartbeats 16000000 in
theorem bursarlaw21_AccessGoesDown.calls (k : Nat) (A : Option Addr) (c : Nat) (l : List OpV) (s p : ByteArray) (r : Bool) (w : World) (hr : k29.C w A l.length l) (hc : l.length ≤ c) (hp : r = true) (hG : Glob w) :
    Calls Tryd.prog 3 #[.slice A l.length c, .string s, .string p] w fun e w' => e = .returned (.bool r) ∧ Below w.heap.size w w' := by
  have hu29 := Tryd.underlying29
  have HR := Aside0.mk hr
  have LV := Lib.hid (lives_ok w hG)
  have GL := Lib.hid hG
  clear hr hG
  go_enter Tryd.func3, Tryd.ntmps3
  go_upto_region 5 with (go_at_call 10; refine LV.out.mono ?_; rintro e w1 ⟨t, b, rfl, hT, ht, hb, hb1⟩; have B1 := Aside0.mk hb1; have T1 := Aside0.mk hT; have HTB := Lib.hid (And.intro ht hb); clear hT ht hb hb1)
  clear LV
  go_loopg [8] 60 (fun g v8 wr => ∃ (i : Nat) (M : Tab), v8 = .int .i64 (i : Int) ∧ Aside0 (i + g = 60) ∧ Aside0 (M.length ≤ i) ∧ Aside0 (TB wr t b M) ∧ Aside0 (Below w.heap.size w wr))
  case atStart => exact ⟨0, [], rfl, ⟨rfl⟩, ⟨Nat.le_refl _⟩, T1, B1⟩
  case round =>
    clear T1 B1
    obtain ⟨i, M, rfl, HI, HM, HT, HB⟩ := hrel
    by_cases hi : i < l.length
    rotate_left
    · have d1 : decide ((i : Int) < (l.length : Int)) = false := decide_eq_false (by omega)
      have d1n : decide (i < l.length) = false := decide_eq_false hi
      clear hi
      have TT := Lib.hid HT.out
      have BB := Lib.hid HB.out
      have GB := Lib.hid (GL.out.below HB.out)
      clear HT HB HI HR
      go_upto_region 9 with (go_at_call 12; refine (line_ok p _ GB.out).mono ?_; rintro e w3 ⟨v0, rfl, hr, hb3⟩; obtain ⟨A0, c0, rfl⟩ := Kd.R_slice hr; have C3 := Aside0.mk (Kd.R_reads' hr).2.2; have B3 := Lib.hid (BB.out.trans (below_lower hb3 BB.out.size)); have T3 := Lib.hid (TB.below TT.out hb3); have G3 := Lib.hid (GB.out.below hb3); clear hb3 hr)
      clear GB BB TT
      rcases line_cases p with ⟨_, h0, _⟩ | ⟨_, h0⟩
      rotate_left
      · have hbad : (lineS p).2 ≠ 0 := by rw [h0]; decide
        have e2 : (lineS p).2 = 41 := by rw [h0]
        rw [e2]
        have K1 := Lib.hid (fun w' (hb : Below w3.heap.size w3 w') => may_lit (may_ok w' t b M s 0 p (T3.out.below hb) (G3.out.below hb)) (may_bad hbad))
        have K2 := Lib.hid (fun w' (hb : Below w3.heap.size w3 w') => may_lit (may_ok w' t b M rootS 0 p (T3.out.below hb) (G3.out.below hb)) (may_bad hbad))
        unfold rootS at K2
        clear hbad h0 e2
        have HB := Aside0.mk (Below.refl w3.heap.size w3)
        go_wp2_with (first | (go_at_call 13; (with_reducible refine (K1.out _ HB.out).mono ?_); rintro e wx ⟨rfl, hb⟩; have n0 := Aside0.mk (HB.out.trans (below_lower hb HB.out.size)); clear HB hb; have HB := n0; clear n0) | (go_at_call 13; (with_reducible refine (K2.out _ HB.out).mono ?_); rintro e wx ⟨rfl, hb⟩; have n0 := Aside0.mk (HB.out.trans (below_lower hb HB.out.size)); clear HB hb; have HB := n0; clear n0))
        go_ret
        exact ⟨by rw [hp] <;> rfl, B3.out.trans (below_lower HB.out B3.out.size)⟩
      have HL0 := Lib.hid h0
      rw [h0]
      clear h0
      go_upto_region 12 with fail
      go_loopg [11] 4 (fun g v11 wr => ∃ (v : Nat), v11 = .int .i64 (v : Int) ∧ Aside0 (v + g = 4) ∧ Aside0 (Below w3.heap.size w3 wr))
      case atStart => exact ⟨0, rfl, ⟨rfl⟩, ⟨Below.refl _ _⟩⟩
      case round =>
        obtain ⟨v, rfl, HV, HB⟩ := hrel
        by_cases hv : v < 4
        · have dv : decide ((v : Int) < 4) = true := decide_eq_true (by omega)
          obtain ⟨gv, rfl⟩ : ∃ gv, gk = gv + 1 := ⟨gk - 1, by have := HV.out; omega⟩
          have HV4 := Lib.hid hv
          clear hv
          go_upto_region 15 with fail
          go_loopg [12] (lineS p).1.length (fun g v12 wr => ∃ (i : Nat), v12 = .int .i64 (i : Int) ∧ Aside0 (i + g = (lineS p).1.length) ∧ Aside0 (Below w3.heap.size w3 wr))
          case atStart => exact ⟨0, rfl, ⟨by omega⟩, HB⟩
          case round =>
            obtain ⟨i, rfl, HI, HB⟩ := hrel
            by_cases hi : i < (lineS p).1.length
            · have hfc := Kd.at_string (Kd.C_below C3.out HB.out) (i : Int) (by omega) (by omega)
              obtain ⟨ad, e115, hx115⟩ := hfc
              cases e115
              obtain ⟨q, hq⟩ : ∃ q, q = rdOf ByteArray.empty (lineS p).1 (i : Int) := ⟨_, rfl⟩
              rw [← hq, Int.toNat_natCast] at hx115
              have LQ := Lib.hid (fun w' (hb : Below w3.heap.size w3 w') => line_at C3.out hb hi hq)
              have HQ := Lib.hid (show q ∈ (lineS p).1 by rw [hq, rd_at _ i hi]; exact List.getElem_mem hi)
              clear hq
              have p115 : (0 ≤ (i : Int)) = True := eq_true (by omega)
              have q115 : ((i : Int) < ((lineS p).1.length : Int)) = True := eq_true (by omega)
              have qd : decide ((i : Int) < ((lineS p).1.length : Int)) = true := decide_eq_true (by omega)
              have qdn : decide (i < (lineS p).1.length) = true := decide_eq_true hi
              obtain ⟨g0, rfl⟩ : ∃ g0, gk = g0 + 1 := ⟨gk - 1, by have := HI.out; omega⟩
              have HLT := Lib.hid hi
              clear hi
              obtain ⟨x, hx⟩ : ∃ x, x = mayB M s (v : Int) q := ⟨_, rfl⟩
              have KX := Lib.hid (fun w' (hb : Below w3.heap.size w3 w') => may_lit (may_ok w' t b M s (v : Int) q (T3.out.below hb) (G3.out.below hb)) hx.symm)
              have HX := Lib.hid hx
              clear hx
              by_cases hv0 : 0 < v
              · have e0 : decide ((v : Int) > 0) = true := decide_eq_true (by omega)
                have e0n : decide (0 < v) = true := decide_eq_true hv0
                have HV0 := Lib.hid hv0
                clear hv0
                cases x with
                | false =>
                  go_wp2_with (go_at_call 13; (with_reducible refine (KX.out _ HB.out).mono ?_); rintro e wx ⟨rfl, hb⟩; have n0 := Aside0.mk (HB.out.trans (below_lower hb HB.out.size)); clear HB hb; have HB := n0; clear n0; have hx116 := LQ.out _ HB.out)
                  go_roundg g0
                  case measure => omega
                  case rel => exact ⟨i + 1, congrArg (Value.int .i64) (by rw [w64 i (by have := HLT.out; have := line_len p; omega)]), ⟨by have := HI.out; omega⟩, HB⟩
                | true =>
                  have KP := Lib.hid (fun w' (hb : Below w3.heap.size w3 w') => may_lit (may_ok w' t b M s (v : Int) p (T3.out.below hb) (G3.out.below hb)) (may_down HQ.out HX.out.symm))
                  have KD := Lib.hid (fun w' (hb : Below w3.heap.size w3 w') => may_lit (may_ok w' t b M s (wrap64 ((v : Int) - 1)) q (T3.out.below hb) (G3.out.below hb)) (may_less_w HV0.out HV4.out HX.out.symm))
                  go_wp2_with (first | (go_at_call 13; (with_reducible refine (KX.out _ HB.out).mono ?_); rintro e wx ⟨rfl, hb⟩; have n0 := Aside0.mk (HB.out.trans (below_lower hb HB.out.size)); clear HB hb; have HB := n0; clear n0; have hx116 := LQ.out _ HB.out) | (go_at_call 13; (with_reducible refine (KP.out _ HB.out).mono ?_); rintro e wx ⟨rfl, hb⟩; have n0 := Aside0.mk (HB.out.trans (below_lower hb HB.out.size)); clear HB hb; have HB := n0; clear n0; have hx116 := LQ.out _ HB.out) | (go_at_call 13; (with_reducible refine (KD.out _ HB.out).mono ?_); rintro e wx ⟨rfl, hb⟩; have n0 := Aside0.mk (HB.out.trans (below_lower hb HB.out.size)); clear HB hb; have HB := n0; clear n0; have hx116 := LQ.out _ HB.out))
                  go_roundg g0
                  case measure => omega
                  case rel => exact ⟨i + 1, congrArg (Value.int .i64) (by rw [w64 i (by have := HLT.out; have := line_len p; omega)]), ⟨by have := HI.out; omega⟩, HB⟩
              · have e0 : decide ((v : Int) > 0) = false := decide_eq_false (by omega)
                have e0n : decide (0 < v) = false := decide_eq_false hv0
                clear hv0
                cases x with
                | false =>
                  go_wp2_with (go_at_call 13; (with_reducible refine (KX.out _ HB.out).mono ?_); rintro e wx ⟨rfl, hb⟩; have n0 := Aside0.mk (HB.out.trans (below_lower hb HB.out.size)); clear HB hb; have HB := n0; clear n0; have hx116 := LQ.out _ HB.out)
                  go_roundg g0
                  case measure => omega
                  case rel => exact ⟨i + 1, congrArg (Value.int .i64) (by rw [w64 i (by have := HLT.out; have := line_len p; omega)]), ⟨by have := HI.out; omega⟩, HB⟩
                | true =>
                  have KP := Lib.hid (fun w' (hb : Below w3.heap.size w3 w') => may_lit (may_ok w' t b M s (v : Int) p (T3.out.below hb) (G3.out.below hb)) (may_down HQ.out HX.out.symm))
                  go_wp2_with (first | (go_at_call 13; (with_reducible refine (KX.out _ HB.out).mono ?_); rintro e wx ⟨rfl, hb⟩; have n0 := Aside0.mk (HB.out.trans (below_lower hb HB.out.size)); clear HB hb; have HB := n0; clear n0; have hx116 := LQ.out _ HB.out) | (go_at_call 13; (with_reducible refine (KP.out _ HB.out).mono ?_); rintro e wx ⟨rfl, hb⟩; have n0 := Aside0.mk (HB.out.trans (below_lower hb HB.out.size)); clear HB hb; have HB := n0; clear n0; have hx116 := LQ.out _ HB.out))
                  go_roundg g0
                  case measure => omega
                  case rel => exact ⟨i + 1, congrArg (Value.int .i64) (by rw [w64 i (by have := HLT.out; have := line_len p; omega)]), ⟨by have := HI.out; omega⟩, HB⟩
            · have qd : decide ((i : Int) < ((lineS p).1.length : Int)) = false := decide_eq_false (by omega)
              have qdn : decide (i < (lineS p).1.length) = false := decide_eq_false hi
              clear hi
              have KR := Lib.hid (fun w' (hb : Below w3.heap.size w3 w') => may_lit (may_ok w' t b M rootS (v : Int) p (T3.out.below hb) (G3.out.below hb)) (may_root HL0.out (by omega) (by have := HV4.out; omega)))
              unfold rootS at KR
              go_wp2_with (go_at_call 13; (with_reducible refine (KR.out _ HB.out).mono ?_); rintro e wx ⟨rfl, hb⟩; have n0 := Aside0.mk (HB.out.trans (below_lower hb HB.out.size)); clear HB hb; have HB := n0; clear n0)
              go_roundg gv
              case measure => omega
              case rel => exact ⟨v + 1, congrArg (Value.int .i64) (by rw [w64 v (by have := HV4.out; omega)]), ⟨by have := HV.out; omega⟩, HB⟩
        · have dv : decide ((v : Int) < 4) = false := decide_eq_false (by omega)
          clear hv
          go_wp2
          go_ret
          exact ⟨by rw [hp] <;> rfl, B3.out.trans (below_lower HB.out B3.out.size)⟩
    by_cases h60 : i < 60
    rotate_left
    · have d1 : decide ((i : Int) < (l.length : Int)) = true := decide_eq_true (by omega)
      have d1n : decide (i < l.length) = true := decide_eq_true hi
      have d2 : decide ((i : Int) < 60) = false := decide_eq_false (by omega)
      have d2n : decide (i < 60) = false := decide_eq_false h60
      clear hi h60
      have TT := Lib.hid HT.out
      have BB := Lib.hid HB.out
      have GB := Lib.hid (GL.out.below HB.out)
      clear HT HB HI HR
      go_upto_region 9 with (go_at_call 12; refine (line_ok p _ GB.out).mono ?_; rintro e w3 ⟨v0, rfl, hr, hb3⟩; obtain ⟨A0, c0, rfl⟩ := Kd.R_slice hr; have C3 := Aside0.mk (Kd.R_reads' hr).2.2; have B3 := Lib.hid (BB.out.trans (below_lower hb3 BB.out.size)); have T3 := Lib.hid (TB.below TT.out hb3); have G3 := Lib.hid (GB.out.below hb3); clear hb3 hr)
      clear GB BB TT
      rcases line_cases p with ⟨_, h0, _⟩ | ⟨_, h0⟩
      rotate_left
      · have hbad : (lineS p).2 ≠ 0 := by rw [h0]; decide
        have e2 : (lineS p).2 = 41 := by rw [h0]
        rw [e2]
        have K1 := Lib.hid (fun w' (hb : Below w3.heap.size w3 w') => may_lit (may_ok w' t b M s 0 p (T3.out.below hb) (G3.out.below hb)) (may_bad hbad))
        have K2 := Lib.hid (fun w' (hb : Below w3.heap.size w3 w') => may_lit (may_ok w' t b M rootS 0 p (T3.out.below hb) (G3.out.below hb)) (may_bad hbad))
        unfold rootS at K2
        clear hbad h0 e2
        have HB := Aside0.mk (Below.refl w3.heap.size w3)
        go_wp2_with (first | (go_at_call 13; (with_reducible refine (K1.out _ HB.out).mono ?_); rintro e wx ⟨rfl, hb⟩; have n0 := Aside0.mk (HB.out.trans (below_lower hb HB.out.size)); clear HB hb; have HB := n0; clear n0) | (go_at_call 13; (with_reducible refine (K2.out _ HB.out).mono ?_); rintro e wx ⟨rfl, hb⟩; have n0 := Aside0.mk (HB.out.trans (below_lower hb HB.out.size)); clear HB hb; have HB := n0; clear n0))
        go_ret
        exact ⟨by rw [hp] <;> rfl, B3.out.trans (below_lower HB.out B3.out.size)⟩
      have HL0 := Lib.hid h0
      rw [h0]
      clear h0
      go_upto_region 12 with fail
      go_loopg [11] 4 (fun g v11 wr => ∃ (v : Nat), v11 = .int .i64 (v : Int) ∧ Aside0 (v + g = 4) ∧ Aside0 (Below w3.heap.size w3 wr))
      case atStart => exact ⟨0, rfl, ⟨rfl⟩, ⟨Below.refl _ _⟩⟩
      case round =>
        obtain ⟨v, rfl, HV, HB⟩ := hrel
        by_cases hv : v < 4
        · have dv : decide ((v : Int) < 4) = true := decide_eq_true (by omega)
          obtain ⟨gv, rfl⟩ : ∃ gv, gk = gv + 1 := ⟨gk - 1, by have := HV.out; omega⟩
          have HV4 := Lib.hid hv
          clear hv
          go_upto_region 15 with fail
          go_loopg [12] (lineS p).1.length (fun g v12 wr => ∃ (i : Nat), v12 = .int .i64 (i : Int) ∧ Aside0 (i + g = (lineS p).1.length) ∧ Aside0 (Below w3.heap.size w3 wr))
          case atStart => exact ⟨0, rfl, ⟨by omega⟩, HB⟩
          case round =>
            obtain ⟨i, rfl, HI, HB⟩ := hrel
            by_cases hi : i < (lineS p).1.length
            · have hfc := Kd.at_string (Kd.C_below C3.out HB.out) (i : Int) (by omega) (by omega)
              obtain ⟨ad, e115, hx115⟩ := hfc
              cases e115
              obtain ⟨q, hq⟩ : ∃ q, q = rdOf ByteArray.empty (lineS p).1 (i : Int) := ⟨_, rfl⟩
              rw [← hq, Int.toNat_natCast] at hx115
              have LQ := Lib.hid (fun w' (hb : Below w3.heap.size w3 w') => line_at C3.out hb hi hq)
              have HQ := Lib.hid (show q ∈ (lineS p).1 by rw [hq, rd_at _ i hi]; exact List.getElem_mem hi)
              clear hq
              have p115 : (0 ≤ (i : Int)) = True := eq_true (by omega)
              have q115 : ((i : Int) < ((lineS p).1.length : Int)) = True := eq_true (by omega)
              have qd : decide ((i : Int) < ((lineS p).1.length : Int)) = true := decide_eq_true (by omega)
              have qdn : decide (i < (lineS p).1.length) = true := decide_eq_true hi
              obtain ⟨g0, rfl⟩ : ∃ g0, gk = g0 + 1 := ⟨gk - 1, by have := HI.out; omega⟩
              have HLT := Lib.hid hi
              clear hi
              obtain ⟨x, hx⟩ : ∃ x, x = mayB M s (v : Int) q := ⟨_, rfl⟩
              have KX := Lib.hid (fun w' (hb : Below w3.heap.size w3 w') => may_lit (may_ok w' t b M s (v : Int) q (T3.out.below hb) (G3.out.below hb)) hx.symm)
              have HX := Lib.hid hx
              clear hx
              by_cases hv0 : 0 < v
              · have e0 : decide ((v : Int) > 0) = true := decide_eq_true (by omega)
                have e0n : decide (0 < v) = true := decide_eq_true hv0
                have HV0 := Lib.hid hv0
                clear hv0
                cases x with
                | false =>
                  go_wp2_with (go_at_call 13; (with_reducible refine (KX.out _ HB.out).mono ?_); rintro e wx ⟨rfl, hb⟩; have n0 := Aside0.mk (HB.out.trans (below_lower hb HB.out.size)); clear HB hb; have HB := n0; clear n0; have hx116 := LQ.out _ HB.out)
                  go_roundg g0
                  case measure => omega
                  case rel => exact ⟨i + 1, congrArg (Value.int .i64) (by rw [w64 i (by have := HLT.out; have := line_len p; omega)]), ⟨by have := HI.out; omega⟩, HB⟩
                | true =>
                  have KP := Lib.hid (fun w' (hb : Below w3.heap.size w3 w') => may_lit (may_ok w' t b M s (v : Int) p (T3.out.below hb) (G3.out.below hb)) (may_down HQ.out HX.out.symm))
                  have KD := Lib.hid (fun w' (hb : Below w3.heap.size w3 w') => may_lit (may_ok w' t b M s (wrap64 ((v : Int) - 1)) q (T3.out.below hb) (G3.out.below hb)) (may_less_w HV0.out HV4.out HX.out.symm))
                  go_wp2_with (first | (go_at_call 13; (with_reducible refine (KX.out _ HB.out).mono ?_); rintro e wx ⟨rfl, hb⟩; have n0 := Aside0.mk (HB.out.trans (below_lower hb HB.out.size)); clear HB hb; have HB := n0; clear n0; have hx116 := LQ.out _ HB.out) | (go_at_call 13; (with_reducible refine (KP.out _ HB.out).mono ?_); rintro e wx ⟨rfl, hb⟩; have n0 := Aside0.mk (HB.out.trans (below_lower hb HB.out.size)); clear HB hb; have HB := n0; clear n0; have hx116 := LQ.out _ HB.out) | (go_at_call 13; (with_reducible refine (KD.out _ HB.out).mono ?_); rintro e wx ⟨rfl, hb⟩; have n0 := Aside0.mk (HB.out.trans (below_lower hb HB.out.size)); clear HB hb; have HB := n0; clear n0; have hx116 := LQ.out _ HB.out))
                  go_roundg g0
                  case measure => omega
                  case rel => exact ⟨i + 1, congrArg (Value.int .i64) (by rw [w64 i (by have := HLT.out; have := line_len p; omega)]), ⟨by have := HI.out; omega⟩, HB⟩
              · have e0 : decide ((v : Int) > 0) = false := decide_eq_false (by omega)
                have e0n : decide (0 < v) = false := decide_eq_false hv0
                clear hv0
                cases x with
                | false =>
                  go_wp2_with (go_at_call 13; (with_reducible refine (KX.out _ HB.out).mono ?_); rintro e wx ⟨rfl, hb⟩; have n0 := Aside0.mk (HB.out.trans (below_lower hb HB.out.size)); clear HB hb; have HB := n0; clear n0; have hx116 := LQ.out _ HB.out)
                  go_roundg g0
                  case measure => omega
                  case rel => exact ⟨i + 1, congrArg (Value.int .i64) (by rw [w64 i (by have := HLT.out; have := line_len p; omega)]), ⟨by have := HI.out; omega⟩, HB⟩
                | true =>
                  have KP := Lib.hid (fun w' (hb : Below w3.heap.size w3 w') => may_lit (may_ok w' t b M s (v : Int) p (T3.out.below hb) (G3.out.below hb)) (may_down HQ.out HX.out.symm))
                  go_wp2_with (first | (go_at_call 13; (with_reducible refine (KX.out _ HB.out).mono ?_); rintro e wx ⟨rfl, hb⟩; have n0 := Aside0.mk (HB.out.trans (below_lower hb HB.out.size)); clear HB hb; have HB := n0; clear n0; have hx116 := LQ.out _ HB.out) | (go_at_call 13; (with_reducible refine (KP.out _ HB.out).mono ?_); rintro e wx ⟨rfl, hb⟩; have n0 := Aside0.mk (HB.out.trans (below_lower hb HB.out.size)); clear HB hb; have HB := n0; clear n0; have hx116 := LQ.out _ HB.out))
                  go_roundg g0
                  case measure => omega
                  case rel => exact ⟨i + 1, congrArg (Value.int .i64) (by rw [w64 i (by have := HLT.out; have := line_len p; omega)]), ⟨by have := HI.out; omega⟩, HB⟩
            · have qd : decide ((i : Int) < ((lineS p).1.length : Int)) = false := decide_eq_false (by omega)
              have qdn : decide (i < (lineS p).1.length) = false := decide_eq_false hi
              clear hi
              have KR := Lib.hid (fun w' (hb : Below w3.heap.size w3 w') => may_lit (may_ok w' t b M rootS (v : Int) p (T3.out.below hb) (G3.out.below hb)) (may_root HL0.out (by omega) (by have := HV4.out; omega)))
              unfold rootS at KR
              go_wp2_with (go_at_call 13; (with_reducible refine (KR.out _ HB.out).mono ?_); rintro e wx ⟨rfl, hb⟩; have n0 := Aside0.mk (HB.out.trans (below_lower hb HB.out.size)); clear HB hb; have HB := n0; clear n0)
              go_roundg gv
              case measure => omega
              case rel => exact ⟨v + 1, congrArg (Value.int .i64) (by rw [w64 v (by have := HV4.out; omega)]), ⟨by have := HV.out; omega⟩, HB⟩
        · have dv : decide ((v : Int) < 4) = false := decide_eq_false (by omega)
          clear hv
          go_wp2
          go_ret
          exact ⟨by rw [hp] <;> rfl, B3.out.trans (below_lower HB.out B3.out.size)⟩
    have d1 : decide ((i : Int) < (l.length : Int)) = true := decide_eq_true (by omega)
    have d2 : decide ((i : Int) < 60) = true := decide_eq_true (by omega)
    have d1n : decide (i < l.length) = true := decide_eq_true hi
    have d2n : decide (i < 60) = true := decide_eq_true h60
    have p115 : (0 ≤ (i : Int)) = True := eq_true (by omega)
    have q115 : ((i : Int) < (l.length : Int)) = True := eq_true (by omega)
    obtain ⟨ad, hA, hx0, hx⟩ := op_at (Kd.C_below HR.out HB.out) i hi
    obtain ⟨g0, rfl⟩ : ∃ g0, gk = g0 + 1 := ⟨gk - 1, by have := HI.out; omega⟩
    have PL := Lib.hid (play_ok wr t b M l[i] HT.out (GL.out.below HB.out) (by have := HM.out; omega))
    have PM := Lib.hid (playM_len M l[i])
    unfold eO at PL
    generalize l[i] = o at hx0 hx PL PM
    cases hA
    obtain ⟨two, kd, vb, ⟨bp, bn, bs, bv⟩, pa, na, su⟩ := o
    have hx1 := hx 1 (.int .i64 kd) (by decide) rfl
    have hx2 := hx 2 (.int .i64 vb) (by decide) rfl
    have hx3 := hx 3 (.string bp) (by decide) rfl
    have hx4 := hx 4 (.string bn) (by decide) rfl
    have hx5 := hx 5 (.string bs) (by decide) rfl
    have hx6 := hx 6 (.int .i64 bv) (by decide) rfl
    have hx7 := hx 7 (.string pa) (by decide) rfl
    have hx8 := hx 8 (.string na) (by decide) rfl
    have hx9 := hx 9 (.string su) (by decide) rfl
    go_wp2_with (go_at_call 11; refine PL.out.mono ?_; rintro e wx ⟨rfl, hT, ho⟩; have T5 := Aside0.mk hT; have B5 := Aside0.mk (HB.out.trans (ho.belowB HTB.out.2 HB.out.size)); clear hT ho)
    go_roundg g0
    case measure => omega
    case rel => exact ⟨i + 1, playM M ⟨two, kd, vb, ⟨bp, bn, bs, bv⟩, pa, na, su⟩, congrArg (Value.int .i64) (by omega), ⟨by have := HI.out; omega⟩, ⟨by have := PM.out; have := HM.out; omega⟩, T5, B5⟩
end Go.Proofs.YtphddbijdfmpjaaDoor.Q
namespace Go.Proofs.YtphddbijdfmpjaaDoor.Pure
theorem AccessGoesDown (l : List Wr.OpV) (a b : ByteArray) (h0 : l.length ≤ maxLen) (h1 : a.size ≤ 140737488351232) (h2 : b.size ≤ 140737488351232) : ∃ k : Nat, true = true := ⟨0, rfl⟩
end Go.Proofs.YtphddbijdfmpjaaDoor.Pure
namespace Go.Proofs.YtphddbijdfmpjaaDoor.Q
open Go.RowKit Go.Lib Go.ChangeShapes Go.Proofs.YtphddbijdfmpjaaDoorW.PrintWords Go.Proofs.YtphddbijdfmpjaaDoorW.PrintLast
set_option linter.unusedVariables false
set_option linter.unusedSimpArgs false
theorem laid_one {P : Program} {w : World} {l : List (String × DataW Unit)} {n : String} {d : DataW Unit} (h : laidMetH P l w) (hl : (l.filter fun x => x.1 == n) = [(n, d)]) (hd : d.handleName? = none) : laidMet P [(n, d)] w := by
  have h1 := h.filter (fun x => x.1 == n)
  rw [hl] at h1
  have h2 := (laidMetH_iff.1 h1).1
  have e : ([(n, d)] : List (String × DataW Unit)).filter (fun x => x.2.handleName?.isNone) = [(n, d)] := by simp [List.filter_cons, hd]
  rw [e] at h2
  exact h2
theorem letters_laid {w : World} (h : laidMet Tryd.prog [("bursar/object.letters", Rows.laid_bursar_object_letters)] w) : w.cell? ⟨0, 4, none⟩ = some (.int .u8 66) :=
  (Lib.tabIs_of_head (k := .u8) (zs := [0, 81, 76, 79, 66]) (g := 0) (t := 97) (e := 5) (n := 5) (by kernel_rfl) (by kernel_rfl) Tryd.underlying97 Tryd.underlying5 (by kernel_rfl) (by kernel_rfl) h).cell (by kernel_rfl) 4 (by decide)
theorem glob_of {W : World} (hsh : W.ShapedOpen Tryd.prog) (h : laidMetH Tryd.prog Rows.accessGoesDownRow.laid W) : Glob W :=
  ⟨Tryd.laysM146.s1_3 W hsh, letters_laid (laid_one h rfl rfl)⟩
end Go.Proofs.YtphddbijdfmpjaaDoor.Q
namespace Go.Proofs.YtphddbijdfmpjaaDoor.accessGoesDown
open Go.ChangeShapes Go.WideShapes Go.ChangeAt Go.RowKit
open Go.ChangeMaps (open_string shut_string)
set_option linter.unusedVariables false
set_option linter.unusedSimpArgs false
theorem own : ownKnob Tryd.prog.godebug = none := by kernel_rfl
theorem laidOut : laidOutB Tryd.prog = true := by kernel_rfl
set_option maxRecDepth 100000 in
theorem contract (H : Type) (enc : TypeId × Value → H) (W : World) (base : Nat) (args : Array Value) (ds gs : List (DataW H)) (before : List MemPlace)
    (hval0 : ∀ (j : Nat) t v, Tryd.f3.params[j]? = some t → args[j]? = some v → Value.okWide Tryd.prog W .any base t v)
    (hW : DataW.Whole enc Tryd.prog Tryd.f3.params.toList Rows.accessGoesDownSpec.vars false W args.toList ds gs before)
    (hsz0 : (DataW.weightsEach Tryd.prog (Tryd.f3.params.toList ++ (OpenSpec.ofChange Rows.accessGoesDownSpec).bare.plain.varTypes Tryd.prog) (ds ++ gs)).all (· ≤ reachBytes) = true)
    (hsh : W.ShapedOpen Tryd.prog)
    (hl : laidMetH Tryd.prog Rows.accessGoesDownRow.laid W)
    : Calls Tryd.prog 3 args W fun e W' => ∃ v, e = .returned v ∧ Rows.accessGoesDownSpec.post enc Tryd.prog Tryd.f3 false true false false W args v W' := by
  have hsz : (DataW.weightsEach Tryd.prog (Tryd.f3.params.toList ++ Rows.accessGoesDownSpec.plain.varTypes Tryd.prog) (ds ++ gs)).all (· ≤ reachBytes) = true := hsz0
  have hval : ∀ (j : Nat) t v, Tryd.f3.params[j]? = some t → args[j]? = some v → Value.okWide Tryd.prog W .any base t v := hval0
  have hW' := hW
  obtain ⟨p, q, hA0, hV, rfl, hfz, hnd⟩ := hW
  have hA : DataW.TrodAll enc Tryd.prog W 0 (fun _ => true) true Tryd.f3.params.toList args.toList ds p := hA0
  rw [Tryd.params3] at hA hval hsz
  obtain ⟨v0, vs0, d0, ds0, p0, q0, hargs, rfl, rfl, h0, r0⟩ := trodAll_cons hA
  obtain ⟨v1, vs1, d1, ds1, p1, q1, rfl, rfl, rfl, h1, r1⟩ := trodAll_cons r0
  obtain ⟨v2, vs2, d2, ds2, p2, q2, rfl, rfl, rfl, h2, r2⟩ := trodAll_cons r1
  obtain ⟨rfl, rfl, rfl⟩ := trodAll_nil r2
  obtain rfl : args = #[v0, v1, v2] := by cases args; simp_all
  obtain ⟨rfl, rfl⟩ := trodVars_none hV
  obtain ⟨A0, len0, cap0, rfl⟩ := okWide_slice Tryd.underlying22 (hval 0 22 v0 rfl rfl)
  have k0 := h0
  have lt0 : ∀ x ∈ p0, x.block < W.heap.size := by obtain ⟨m, hm⟩ := k0; exact DataW.trod_lt m _ _ _ hm
  obtain ⟨l0, rfl, hr0, hc0, hz0, hm0⟩ := Q.row_open Tryd.underlying22 (by kernel_rfl) Q.opens29 h0
  obtain ⟨a1, rfl, rfl, rfl, y1⟩ := open_string Tryd.underlying9 (hval 1 9 v1 rfl rfl) h1
  have w1 : a1.size ≤ 140737488351232 := by
    have z := sized_string hsz (j := 1) (t := 9) rfl rfl
    rw [Array.length_toList] at z
    exact z
  obtain ⟨a2, rfl, rfl, rfl, y2⟩ := open_string Tryd.underlying9 (hval 2 9 v2 rfl rfl) h2
  have w2 : a2.size ≤ 140737488351232 := by
    have z := sized_string hsz (j := 2) (t := 9) rfl rfl
    rw [Array.length_toList] at z
    exact z
  obtain ⟨k, hp⟩ := Pure.AccessGoesDown l0 a1 a2 hm0 w1 w2
  refine (Q.bursarlaw21_AccessGoesDown.calls k A0 cap0 l0 a1 a2 true W hr0 hc0 hp (Q.glob_of hsh hl)).mono fun e W' ⟨he, bel⟩ => ?_
  subst he
  exact ⟨_, rfl, _, _, _, [], _, [], hW', trodAll_mk1 (shut_bool Tryd.underlying4 _), (trodAll_cons_mk (Below.trod laidOut (by kernel_rfl) (of_decide_eq_true (by kernel_rfl)) k0 bel lt0) (trodAll_cons_mk (shut_string Tryd.underlying9 y1) (trodAll_cons_mk (shut_string Tryd.underlying9 y2) trodAll_mk0))), rfl, bel.frame _, fun h => by cases h⟩
noncomputable def tab1 : Obj → Obj
  | .cells _ t frozen => .cells (Go.Pinned.utf8FirstZ.map fun (n : Nat) => Value.int .u8 (n : Int)).toArray t frozen
  | o => o
noncomputable def laidWorld (os : Os) : World :=
  { World.doorLaid Tryd.prog 138 os with heap := (World.doorLaid Tryd.prog 138 os).heap.modify 2 tab1 }
theorem laid_met (os : Os) : laidMet Tryd.prog Rows.accessGoesDownRow.laid ((laidWorld os).forCall (fun _ _ => 0) ⟨#[], #[.slice none 0 0, .string ByteArray.empty, .string ByteArray.empty], []⟩).memory :=
  laidMet_of_run' 8 (by kernel_rfl) (by kernel_rfl)
theorem reads (os : Os) {H : Type} (enc : TypeId × Value → H) : ∃ places, DataW.whole enc Tryd.prog ((laidWorld os).forCall (fun _ _ => 0) ⟨#[], #[.slice none 0 0, .string ByteArray.empty, .string ByteArray.empty], []⟩).memory Tryd.f3.params.toList Rows.accessGoesDownSpec.vars false (#[.slice none 0 0, .string ByteArray.empty, .string ByteArray.empty] : Array Value).toList 8 = some ([.nil, .lit (.string []), .lit (.string [])], [], places) :=
  ⟨[], by kernel_rfl⟩
set_option maxRecDepth 100000 in
theorem lifted (os : Os) (started : os.Started) (H : Type) (enc : TypeId × Value → H) (F : Stop.Interp) :
    ReturnsInHanded {} Tryd.checked os 3 .any ((OpenSpec.ofChange Rows.accessGoesDownSpec).preRow enc Tryd.prog Tryd.f3 Rows.accessGoesDownRow.domain false Rows.accessGoesDownRow.laid) (((OpenSpec.ofChange Rows.accessGoesDownSpec).at F).post enc Tryd.prog Tryd.f3 false true false false) := by
  obtain ⟨places, hx⟩ := reads os enc
  refine returnsInHanded_of_row (C := Tryd.checked) (s := OpenSpec.ofChange Rows.accessGoesDownSpec) own started (by kernel_rfl) Tryd.func3
    (witness_row_at (enc := enc) (C := Tryd.checked) false (laidWorld os) #[.slice none 0 0, .string ByteArray.empty, .string ByteArray.empty] rfl (by kernel_rfl) (by kernel_rfl) (by kernel_rfl)
      (OpenSpec.preRow_of_cond 8 hx (by kernel_rfl) (fun k hk => by cases hk) (by kernel_rfl) (laid_met os))) ?_
  intro W base args ds gs before hval hW _ hcond hsz hl hsh _
  exact contract H enc W base args ds gs before hval hW hsz hsh hl
theorem said : Rows.AccessGoesDownSaid :=
  OpenClaim.holds_of_cond 3 Tryd.f3 rfl rfl rfl rfl rfl rfl rfl ⟨rfl, rfl, rfl, rfl, rfl⟩ rfl rfl rfl rfl rfl (by kernel_rfl) Tryd.func3 (by kernel_rfl)
    (of_decide_eq_true (by kernel_rfl)) (by unfold Func.isWrapper; first | (rw [if_pos (by decide +kernel)]; kernel_rfl) | (rw [if_neg (by decide +kernel)]; exact ⟨rfl, rfl⟩))
    (fun os started H enc _ F => by rw [OpenClaim.pre_eq_preRow]; exact lifted os started H enc F)
theorem plain (f : FuncId) (fn : Func) (hf : Tryd.pinned.checked.prog.funcNamed "bursar/bursarlaw21.AccessGoesDown" = some f) (hfn : Tryd.pinned.checked.prog.funcs[f]? = some fn) :
    false = Tryd.pinned.checked.prog.looks [] ∧ ∀ (j : Nat) t, fn.params[j]? = some t → Tryd.pinned.checked.prog.wantsStandIn t = false := by
  obtain rfl : f = 3 := Option.some.inj ((show Tryd.prog.funcNamed "bursar/bursarlaw21.AccessGoesDown" = some 3 by kernel_rfl).symm.trans hf) |>.symm
  obtain rfl : fn = Tryd.f3 := (Option.some.inj (Tryd.func3.symm.trans hfn)).symm
  refine ⟨by kernel_rfl, fun j t ht => ?_⟩
  rw [Tryd.params3] at ht
  have hall : ∀ x ∈ [22, 9, 9], Tryd.prog.wantsStandIn x = false := by
    intro x hx; simp only [List.mem_cons, List.mem_nil_iff, or_false] at hx; rcases hx with rfl | rfl | rfl <;> kernel_rfl
  exact hall t (by simpa using Array.mem_of_getElem? ht)
theorem card : Rows.AccessGoesDownCardSaid :=
  Claim7.holds_tied_plain_at .later [] _ _ _ _ said (fun _ h => by cases h) (by kernel_rfl) (fun _ h => by cases h) accessGoesDown_row_tie rfl ⟨rfl, rfl⟩ (by kernel_rfl) rfl plain (by kernel_rfl)
end Go.Proofs.YtphddbijdfmpjaaDoor.accessGoesDown
namespace Go.Proofs.YtphddbijdfmpjaaDoor
theorem accessGoesDown_holds : Rows.AccessGoesDownCardSaid := accessGoesDown.card
end Go.Proofs.YtphddbijdfmpjaaDoor
