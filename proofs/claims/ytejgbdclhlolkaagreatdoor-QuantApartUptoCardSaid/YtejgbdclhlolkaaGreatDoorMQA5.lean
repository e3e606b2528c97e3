/- What the statement QuantApartUptoCardSaid rests on, part 5 of 5: walks and plain laws; what of the printer's words it leans on. -/
import Derived.Test.YtejgbdclhlolkaaGreatDoorRows
import Derived.Test.YtejgbdclhlolkaaGreatDoorCards
import Derived.Test.YtejgbdclhlolkaaGreatDoorTie
import Derived.Test.YtejgbdclhlolkaaGreatDoorMQA3
import Derived.Test.YtejgbdclhlolkaaGreatDoorMQA4
import Derived.Lib.Hide
import Derived.Deep.Slices
import Derived.ChangeArms
import Derived.ProofKit
import Derived.LaidSub
import Derived.Lib.LaidTab
import Derived.ChangeSame
import Derived.WalkKit
import Derived.OpenShut
import Derived.ShutString
import Derived.ChangeOld
import Derived.Below
import Derived.SizedLaws
import Derived.Deep.DeepHandedRow
import Derived.LaidMore
namespace Go.Proofs.YtejgbdclhlolkaaGreatDoor.Q
open Go.RowKit Go.Proofs.YtejgbdclhlolkaaGreatDoorW.PrintWords Go.Proofs.YtejgbdclhlolkaaGreatDoorW.PrintLast Go.Proofs.YtejgbdclhlolkaaGreatDoorW.PrintMore
attribute [local go_sem] max2_int min2_int max_two min_two max_three min_three max_four min_four   -- for this text's walks alone
set_option linter.unusedVariables false
set_option linter.unusedSimpArgs false
def bursarref03_power.l0 : Nat → Int → Int → Int → List Int → Option (List Int)
|0,_,_,_,_ => none
|k + 1,x0,x1,x6,x160000 => if x6 < x1 then ((bursarref03_long.f k x0).bind fun t160 => ((bursarref03_Long_times.f k x160000 t160).bind fun t163 => (bursarref03_power.l0 k x0 x1 (wrap64 (x6 + 1)) t163))) else (some x160000)
def bursarref03_power.f (k : Nat) (a0 : Int) (a1 : Int) : Option (List Int) := (bursarref03_long.f k 1).bind fun t156 => (bursarref03_power.l0 k a0 a1 0 t156)
theorem bursarref03_power.mono_l : ∀ k, (∀ y0 y1 y2 y3, LeO (bursarref03_power.l0 k y0 y1 y2 y3) (bursarref03_power.l0 (k + 1) y0 y1 y2 y3))
|0 => fun _ _ _ _ r h => by simp [bursarref03_power.l0] at h
|k + 1 => by
  have ih0:=bursarref03_power.mono_l k
  ·intro y0 y1 y2 y3
   unfold bursarref03_power.l0
   repeat' first
  |(with_reducible exact ih0 _ _ _ _)
  |(with_reducible exact bursarref03_Long_times.mono _ _ _)
  |(with_reducible exact bursarref03_long.mono _ _)
  |(with_reducible exact LeO.refl _)
  |(with_reducible exact LeO.none _)
  |(with_reducible refine LeO.ite ?_ ?_)
  |(with_reducible refine LeO.bind ?_ (fun _ => ?_))
  |exact ih0 _ _ _ _
  |exact bursarref03_Long_times.mono _ _ _
  |exact bursarref03_long.mono _ _
  |exact LeO.none _
  |refine LeO.ite ?_ ?_
  |refine LeO.bind ?_ (fun _ => ?_)
theorem bursarref03_power.mono : ∀ a0 a1 k, LeO (bursarref03_power.f k a0 a1) (bursarref03_power.f (k + 1) a0 a1) := by
 intro a0 a1 k
 have ih0:=bursarref03_power.mono_l k
 unfold bursarref03_power.f
 repeat' first
  |(with_reducible exact ih0 _ _ _ _)
  |(with_reducible exact bursarref03_Long_times.mono _ _ _)
  |(with_reducible exact bursarref03_long.mono _ _)
  |(with_reducible exact LeO.refl _)
  |(with_reducible exact LeO.none _)
  |(with_reducible refine LeO.ite ?_ ?_)
  |(with_reducible refine LeO.bind ?_ (fun _ => ?_))
  |exact ih0 _ _ _ _
  |exact bursarref03_Long_times.mono _ _ _
  |exact bursarref03_long.mono _ _
  |exact LeO.none _
  |refine LeO.ite ?_ ?_
  |refine LeO.bind ?_ (fun _ => ?_)
end Go.Proofs.YtejgbdclhlolkaaGreatDoor.Q
namespace Go.Proofs.LongLaw
end Go.Proofs.LongLaw
namespace Go.Proofs.YtejgbdclhlolkaaGreatDoor.Q
end Go.Proofs.YtejgbdclhlolkaaGreatDoor.Q
namespace Go.Proofs.YtejgbdclhlolkaaGreatDoor.Q
end Go.Proofs.YtejgbdclhlolkaaGreatDoor.Q
namespace Go.Proofs.YtejgbdclhlolkaaGreatDoor.Q
end Go.Proofs.YtejgbdclhlolkaaGreatDoor.Q
namespace Go.Proofs.YtejgbdclhlolkaaGreatDoor.Q
open Go.RowKit Go.Lib Go.Proofs.YtejgbdclhlolkaaGreatDoorW.PrintWords Go.Proofs.YtejgbdclhlolkaaGreatDoorW.PrintLast
set_option linter.unusedVariables false
set_option linter.unusedSimpArgs false
def tot : List S57 → ByteArray → Int
  | [], _ => 0
  | a :: r, x => (if a.f0 = x then a.f1 else 0) + tot r x
theorem tot_nil (x : ByteArray) : tot [] x = 0 := rfl
theorem tot_cons (a : S57) (r : List S57) (x : ByteArray) : tot (a :: r) x = (if a.f0 = x then a.f1 else 0) + tot r x := rfl
theorem tot_nonneg {l : List S57} (h : ∀ a ∈ l, 0 ≤ a.f1) (x : ByteArray) : 0 ≤ tot l x := by
  induction l with
  | nil => rw [tot_nil]; omega
  | cons a l ih =>
    rw [tot_cons]
    have h1 := h a (by simp)
    have h2 := ih (fun b hb => h b (by simp [hb]))
    split <;> omega
theorem named_iff (l : List S57) (x : ByteArray) : named l x = true ↔ ∃ y ∈ l, y.f0 = x := by
  unfold named
  rw [List.any_eq_true]
  exact ⟨fun ⟨y, h1, h2⟩ => ⟨y, h1, of_decide_eq_true h2⟩, fun ⟨y, h1, h2⟩ => ⟨y, h1, decide_eq_true h2⟩⟩
theorem named_cons (a : S57) (l : List S57) (x : ByteArray) : named (a :: l) x = true ↔ a.f0 = x ∨ named l x = true := by
  rw [named_iff, named_iff]
  constructor
  · rintro ⟨y, hy, e⟩
    rcases List.mem_cons.1 hy with rfl | hy
    · exact .inl e
    · exact .inr ⟨y, hy, e⟩
  · rintro (e | ⟨y, hy, e⟩)
    · exact ⟨a, by simp, e⟩
    · exact ⟨y, by simp [hy], e⟩
theorem rises_nodup {L : List S57} (h : Rises L) : L.Nodup := List.Pairwise.imp (fun {x y} hxy e => by subst e; exact absurd (show nless x.f0 x.f0 = true from hxy) (by rw [nless_irrefl]; exact Bool.false_ne_true)) h
theorem rises_eq {L M : List S57} (h1 : Rises L) (h2 : Rises M) (h : ∀ y, y ∈ L ↔ y ∈ M) : L = M := by
  have hp : L.Perm M := (List.perm_ext_iff_of_nodup (rises_nodup h1) (rises_nodup h2)).2 h
  have p1 : L.Pairwise (fun a b : S57 => nless a.f0 b.f0 = true) := h1
  have p2 : M.Pairwise (fun a b : S57 => nless a.f0 b.f0 = true) := h2
  refine List.Perm.eq_of_pairwise (le := fun a b : S57 => nless a.f0 b.f0 = true) ?_ p1 p2 hp
  intro a b _ _ h3 h4
  exact absurd (nless_trans h3 h4) (by rw [nless_irrefl]; exact Bool.false_ne_true)
theorem val_ins {L : List S57} (h : Rises L) (x z : ByteArray) (v : Int) : valOf (insS L x v) z = if z = x then v else valOf L z := by
  have hr := rises_ins (x := x) (v := v) h
  by_cases e : z = x
  · rw [if_pos e, e]
    exact val_mem (y := ⟨x, v⟩) hr ((mem_ins h).2 (.inl rfl))
  · rw [if_neg e]
    by_cases hn : ∃ y ∈ L, y.f0 = z
    · obtain ⟨y, hy, rfl⟩ := hn
      rw [val_mem h hy, val_mem hr ((mem_ins h).2 (.inr ⟨hy, e⟩))]
    · rw [val_none (fun y hy e => hn ⟨y, hy, e⟩), val_none]
      intro y hy e2
      rcases (mem_ins h).1 hy with rfl | ⟨hy, _⟩
      · exact e e2.symm
      · exact hn ⟨y, hy, e2⟩
theorem val_ok {L : List S57} (h : Rises L) (hv : ∀ y ∈ L, 0 ≤ y.f1 ∧ y.f1 ≤ 9223372036854775807) (x : ByteArray) : 0 ≤ valOf L x ∧ valOf L x ≤ 9223372036854775807 := by
  by_cases hn : ∃ y ∈ L, y.f0 = x
  · obtain ⟨y, hy, rfl⟩ := hn
    rw [val_mem h hy]
    exact hv y hy
  · rw [val_none (fun y hy e => hn ⟨y, hy, e⟩)]
    omega
theorem addP_in {a v : Int} (ha : 0 ≤ a ∧ a ≤ 9223372036854775807) (hv : 0 ≤ v ∧ v ≤ 9223372036854775807) : addP a v = if 9223372036854775807 < a + v then (0, 7) else (a + v, 0) := by
  unfold addP
  have h : ¬ (a < 0 ∨ v < 0) := by omega
  have hw : wrap64 (9223372036854775807 - v) = 9223372036854775807 - v := by unfold wrap64; omega
  rw [if_neg h, hw]
  by_cases h2 : a > 9223372036854775807 - v
  · rw [if_pos h2, if_pos (by omega)]
  · rw [if_neg h2, if_neg (by omega)]
    have : wrap64 (a + v) = a + v := by unfold wrap64; omega
    rw [this]
theorem sumGo_cons (L : List S57) (a : S57) (r : List S57) : sumGo L (a :: r) = if (addP (valOf L a.f0) a.f1).2 = 0 then sumGo (insS L a.f0 (addP (valOf L a.f0) a.f1).1) r else .error (addP (valOf L a.f0) a.f1).2 := rfl
theorem sumGo_spec : ∀ (r L : List S57), Rises L → (∀ y ∈ L, 0 ≤ y.f1 ∧ y.f1 ≤ 9223372036854775807) → (∀ a ∈ r, 0 ≤ a.f1 ∧ a.f1 ≤ 9223372036854775807) →
    ((∀ x, valOf L x + tot r x ≤ 9223372036854775807) ∧ ∃ M, sumGo L r = .ok M ∧ Rises M ∧ ∀ y, y ∈ M ↔ (named L y.f0 = true ∨ named r y.f0 = true) ∧ y.f1 = valOf L y.f0 + tot r y.f0) ∨
    ((∃ x, 9223372036854775807 < valOf L x + tot r x) ∧ sumGo L r = .error 7) := by
  intro r
  induction r with
  | nil =>
    intro L hL hv _
    refine .inl ⟨fun x => by rw [tot_nil]; have := (val_ok hL hv x).2; omega, L, rfl, hL, fun y => ?_⟩
    rw [tot_nil, Int.add_zero, named_iff]
    constructor
    · intro hy
      exact ⟨.inl ⟨y, hy, rfl⟩, (val_mem hL hy).symm⟩
    · rintro ⟨⟨z, hz, e⟩ | h, h2⟩
      · have h3 := val_mem hL hz
        rw [e, ← h2] at h3
        have : y = z := by cases y; cases z; simp only at e h3; subst e; rw [h3]
        rw [this]; exact hz
      · simp [named] at h
  | cons a r ih =>
    intro L hL hv hr
    have ha := hr a (by simp)
    have hr' : ∀ b ∈ r, 0 ≤ b.f1 ∧ b.f1 ≤ 9223372036854775807 := fun b hb => hr b (by simp [hb])
    have h0 := val_ok hL hv a.f0
    have htn := tot_nonneg (l := r) (fun b hb => (hr' b hb).1)
    rw [sumGo_cons, addP_in h0 ha]
    by_cases hov : 9223372036854775807 < valOf L a.f0 + a.f1
    · rw [if_pos hov, if_neg (show ¬ ((7 : Int) = 0) by omega)]
      refine .inr ⟨⟨a.f0, ?_⟩, rfl⟩
      rw [tot_cons, if_pos rfl]
      have := htn a.f0
      omega
    · rw [if_neg hov, if_pos rfl]
      have key := ih (insS L a.f0 (valOf L a.f0 + a.f1)) (rises_ins hL) (fun y hy => by
        rcases (mem_ins hL).1 hy with rfl | ⟨hy, _⟩
        · exact ⟨by show 0 ≤ valOf L a.f0 + a.f1; omega, by show valOf L a.f0 + a.f1 ≤ _; omega⟩
        · exact hv y hy) hr'
      have hsame : ∀ x, valOf (insS L a.f0 (valOf L a.f0 + a.f1)) x + tot r x = valOf L x + tot (a :: r) x := by
        intro x
        rw [val_ins hL, tot_cons]
        by_cases e : x = a.f0
        · rw [if_pos e, if_pos e.symm, e]; omega
        · rw [if_neg e, if_neg (fun h => e h.symm)]; omega
      rcases key with ⟨h1, M, hM, hR, hmem⟩ | ⟨⟨x, hx⟩, hE⟩
      · refine .inl ⟨fun x => by rw [← hsame]; exact h1 x, M, hM, hR, fun y => ?_⟩
        rw [hmem, hsame, named_cons]
        have hn : named (insS L a.f0 (valOf L a.f0 + a.f1)) y.f0 = true ↔ named L y.f0 = true ∨ a.f0 = y.f0 := by
          rw [named_iff, named_iff]
          constructor
          · rintro ⟨z, hz, e⟩
            rcases (mem_ins hL).1 hz with rfl | ⟨hz, _⟩
            · exact .inr e
            · exact .inl ⟨z, hz, e⟩
          · rintro (⟨z, hz, e⟩ | e)
            · by_cases ez : z.f0 = a.f0
              · exact ⟨⟨a.f0, _⟩, (mem_ins hL).2 (.inl rfl), by rw [← e, ez]⟩
              · exact ⟨z, (mem_ins hL).2 (.inr ⟨hz, ez⟩), e⟩
            · exact ⟨⟨a.f0, _⟩, (mem_ins hL).2 (.inl rfl), e⟩
        rw [hn]
        constructor
        · rintro ⟨(h | h) | h, h2⟩
          · exact ⟨.inl h, h2⟩
          · exact ⟨.inr (.inl h), h2⟩
          · exact ⟨.inr (.inr h), h2⟩
        · rintro ⟨h | h | h, h2⟩
          · exact ⟨.inl (.inl h), h2⟩
          · exact ⟨.inl (.inr h), h2⟩
          · exact ⟨.inr h, h2⟩
      · exact .inr ⟨⟨x, by rw [← hsame]; exact hx⟩, hE⟩
def Canon (l M : List S57) : Prop := Rises M ∧ ∀ y, y ∈ M ↔ named l y.f0 = true ∧ y.f1 = tot l y.f0
def InV (l : List S57) : Prop := ∀ a ∈ l, 0 ≤ a.f1 ∧ a.f1 ≤ 9223372036854775807
theorem summed_spec (ls : List (List S57)) (h : InV ls.flatten) :
    ((∀ x, tot ls.flatten x ≤ 9223372036854775807) ∧ ∃ M, Canon ls.flatten M ∧ quant_summed.f ls = if M.length > 16 then ([], 23) else (M, 0)) ∨
    ((∃ x, 9223372036854775807 < tot ls.flatten x) ∧ quant_summed.f ls = ([], 7)) := by
  rcases sumGo_spec ls.flatten [] List.Pairwise.nil (fun y hy => by simp at hy) h with ⟨h1, M, hM, hR, hmem⟩ | ⟨⟨x, hx⟩, hE⟩
  · refine .inl ⟨fun x => by have := h1 x; simp only [valOf] at this; omega, M, ⟨hR, fun y => ?_⟩, ?_⟩
    · rw [hmem]
      simp only [valOf, Int.zero_add]
      constructor
      · rintro ⟨h | h, h2⟩
        · simp [named] at h
        · exact ⟨h, h2⟩
      · rintro ⟨h, h2⟩
        exact ⟨.inr h, h2⟩
    · unfold quant_summed.f
      rw [hM]
      rfl
  · refine .inr ⟨⟨x, by simp only [valOf] at hx; omega⟩, ?_⟩
    unfold quant_summed.f
    rw [hE]
def normB (l : List S57) : Bool := l.all fun a => resP a.f0 && decide (0 ≤ a.f1)
def normalP (l : List S57) : List S57 × Int := if normB l = true then quant_summed.f [l] else ([], 31)
theorem normB_iff (l : List S57) : normB l = true ↔ ∀ a ∈ l, resP a.f0 = true ∧ 0 ≤ a.f1 := by
  unfold normB
  rw [List.all_eq_true]
  exact ⟨fun h a ha => by have := h a ha; rw [Bool.and_eq_true, decide_eq_true_eq] at this; exact this, fun h a ha => by rw [Bool.and_eq_true, decide_eq_true_eq]; exact h a ha⟩
theorem normGo_cons (k : Nat) (a : S57) (r : List S57) : normGo k (a :: r) = (quant_resource.f k a.f0).bind fun t => if t = true then (if a.f1 < 0 then some false else normGo k r) else some false := rfl
theorem normGo_ev : ∀ l : List S57, (∀ a ∈ l, a.f0.size < 4611686018427387904) → Ev (fun k => normGo k l) (normB l)
  | [], _ => Ev.now true
  | a :: r, h => by
    have ih := normGo_ev r (fun b hb => h b (by simp [hb]))
    have e : normB (a :: r) = (resP a.f0 && decide (0 ≤ a.f1) && normB r) := rfl
    rw [e]
    refine Ev.congr (fun k => normGo_cons k a r) (Ev.bind (resource_ev a.f0 (h a (by simp))) ?_)
    cases resP a.f0 with
    | false => exact Ev.congr (fun k => if_neg Bool.false_ne_true) (Ev.now _)
    | true =>
      refine Ev.congr (fun k => if_pos rfl) ?_
      by_cases hn : a.f1 < 0
      · rw [decide_eq_false (by omega)]
        exact Ev.congr (fun k => if_pos hn) (Ev.now _)
      · rw [decide_eq_true (by omega)]
        exact Ev.congr (fun k => if_neg hn) ih
theorem normal_ev (l : List S57) (hl : l.length ≤ 4000000) (h : ∀ a ∈ l, a.f0.size < 4611686018427387904) : Ev (fun k => quant_Normal.f k l) (normalP l) := by
  refine Ev.bind (normGo_ev l h) ?_
  unfold normalP
  cases hb : normB l with
  | false => exact Ev.congr (fun k => if_neg Bool.false_ne_true) (Ev.now _)
  | true =>
    have hok : sumOK [l] = true := by
      unfold sumOK
      rw [Bool.and_eq_true, decide_eq_true_eq, List.all_eq_true]
      refine ⟨fun r hr => ?_, by simp; omega⟩
      rw [List.mem_singleton] at hr
      rw [hr, List.all_eq_true]
      intro x hx
      exact decide_eq_true (resP_size ((normB_iff l).1 hb x hx).1)
    exact Ev.congr (fun k => if_pos rfl) (Ev.congr (fun k => if_pos hok) (Ev.now _))
theorem flat1 (l : List S57) : [l].flatten = l := by simp
theorem inv_of {l : List S57} (hb : normB l = true) (hv : ∀ a ∈ l, a.f1 ≤ 9223372036854775807) : InV l := fun a ha => ⟨((normB_iff l).1 hb a ha).2, hv a ha⟩
theorem normal_cases (l : List S57) (hv : ∀ a ∈ l, a.f1 ≤ 9223372036854775807) :
    (normalP l = ([], 31) ∨ normalP l = ([], 7) ∨ normalP l = ([], 23)) ∨
    ∃ M, normalP l = (M, 0) ∧ Canon l M ∧ validP M = 0 ∧ normB l = true ∧ (∀ x, tot l x ≤ 9223372036854775807) ∧ ∀ a ∈ M, a.f1 ≤ 9223372036854775807 := by
  unfold normalP
  cases hb : normB l with
  | false => exact .inl (.inl rfl)
  | true =>
    rw [if_pos rfl]
    have hs := summed_spec [l] (by rw [flat1]; exact inv_of hb hv)
    rw [flat1] at hs
    rcases hs with ⟨ht, M, hM, e⟩ | ⟨_, e⟩
    · by_cases h16 : M.length > 16
      · rw [e, if_pos h16]; exact .inl (.inr (.inr rfl))
      · rw [e, if_neg h16]
        have hpos := tot_nonneg (l := l) (fun a ha => ((normB_iff l).1 hb a ha).2)
        refine .inr ⟨M, rfl, hM, (valid_iff M).2 ⟨by omega, hM.1, fun y hy => ?_⟩, rfl, ht, fun y hy => ?_⟩
        · obtain ⟨h1, h2⟩ := (hM.2 y).1 hy
          obtain ⟨z, hz, ez⟩ := (named_iff l y.f0).1 h1
          exact ⟨by rw [← ez]; exact ((normB_iff l).1 hb z hz).1, by rw [h2]; exact hpos _⟩
        · rw [((hM.2 y).1 hy).2]; exact ht _
    · rw [e]; exact .inl (.inr (.inl rfl))
end Go.Proofs.YtejgbdclhlolkaaGreatDoor.Q
namespace Go.Proofs.YtejgbdclhlolkaaGreatDoor.Q
open Go.RowKit Go.Lib Go.Proofs.YtejgbdclhlolkaaGreatDoorW.PrintWords Go.Proofs.YtejgbdclhlolkaaGreatDoorW.PrintLast
set_option linter.unusedVariables false
set_option linter.unusedSimpArgs false
def Fit (l : List S57) : Prop := l.length ≤ 1048576 ∧ (∀ a ∈ l, a.f0.size < 4611686018427387904) ∧ ∀ a ∈ l, -9223372036854775808 ≤ a.f1 ∧ a.f1 ≤ 9223372036854775807
theorem Fit.nil : Fit [] := ⟨by decide, fun a ha => (by simp at ha), fun a ha => (by simp at ha)⟩
def okP (a b : List S57) : Bool := decide (validP a = 0) && decide (validP b = 0)
theorem okP_iff (a b : List S57) : okP a b = true ↔ validP a = 0 ∧ validP b = 0 := by unfold okP; rw [Bool.and_eq_true, decide_eq_true_eq, decide_eq_true_eq]
theorem ok_ev {a b : List S57} (ha : Fit a) (hb : Fit b) : Ev (fun k => quant_valid.f k a b) (okP a b) := both_ev a b ha.1 hb.1 ha.2.1 hb.2.1
theorem valid_in {l : List S57} (h : validP l = 0) (hl : Fit l) : InV l := fun a ha => ⟨(((valid_iff l).1 h).2.2 a ha).2, (hl.2.2 a ha).2⟩
theorem valid_names {l : List S57} (h : validP l = 0) : ∀ a ∈ l, a.f0.size ≤ 48 := fun a ha => resP_size (((valid_iff l).1 h).2.2 a ha).1
theorem fit_valid {l : List S57} (h : validP l = 0) (hv : ∀ a ∈ l, a.f1 ≤ 9223372036854775807) : Fit l :=
  ⟨by have := ((valid_iff l).1 h).1; omega, fun a ha => by have := valid_names h a ha; omega, fun a ha => ⟨by have := (((valid_iff l).1 h).2.2 a ha).2; omega, hv a ha⟩⟩
def plusP (a b : List S57) : List S57 × Int := if okP a b = true then quant_summed.f [a, b] else ([], 31)
theorem flat2 (a b : List S57) : [a, b].flatten = a ++ b := by simp
theorem plus_evL {a b : List S57} (ha : Fit a) (hb : Fit b) : Ev (fun k => quant_Plus.f k a b) (plusP a b) := by
  refine Ev.bind (ok_ev ha hb) ?_
  unfold plusP
  cases h : okP a b with
  | false => exact Ev.congr (fun k => if_neg Bool.false_ne_true) (Ev.now _)
  | true =>
    obtain ⟨h1, h2⟩ := (okP_iff a b).1 h
    have hok : sumOK [a, b] = true := by
      unfold sumOK
      rw [Bool.and_eq_true, decide_eq_true_eq, List.all_eq_true]
      refine ⟨fun r hr => ?_, ?_⟩
      · rw [List.all_eq_true]
        intro x hx
        rcases List.mem_cons.1 hr with rfl | hr
        · exact decide_eq_true (valid_names h1 x hx)
        · rw [List.mem_singleton] at hr; subst hr; exact decide_eq_true (valid_names h2 x hx)
      · rw [flat2, List.length_append]
        have := ha.1
        have := hb.1
        omega
    exact Ev.congr (fun k => if_pos rfl) (Ev.congr (fun k => if_pos hok) (Ev.now _))
theorem inv_app {a b : List S57} (ha : InV a) (hb : InV b) : InV (a ++ b) := fun x hx => (List.mem_append.1 hx).elim (ha x) (hb x)
theorem plus_cases {a b : List S57} (ha : Fit a) (hb : Fit b) (h1 : validP a = 0) (h2 : validP b = 0) :
    (plusP a b = ([], 7) ∨ plusP a b = ([], 23)) ∨ ∃ M, plusP a b = (M, 0) ∧ Canon (a ++ b) M ∧ validP M = 0 ∧ Fit M ∧ ∀ x, tot (a ++ b) x ≤ 9223372036854775807 := by
  have i1 := inv_app (valid_in h1 ha) (valid_in h2 hb)
  have s1 := summed_spec [a, b] (by rw [flat2]; exact i1)
  rw [flat2] at s1
  unfold plusP
  rw [if_pos ((okP_iff a b).2 ⟨h1, h2⟩)]
  rcases s1 with ⟨t1, M, hM, e1⟩ | ⟨_, e1⟩
  · by_cases h16 : M.length > 16
    · rw [e1, if_pos h16]; exact .inl (.inr rfl)
    · rw [e1, if_neg h16]
      have hpos := tot_nonneg (l := a ++ b) (fun x hx => (i1 x hx).1)
      have hv : ∀ y ∈ M, y.f1 ≤ 9223372036854775807 := fun y hy => by rw [((hM.2 y).1 hy).2]; exact t1 _
      have hV : validP M = 0 := (valid_iff M).2 ⟨by omega, hM.1, fun y hy => by
        obtain ⟨n1, n2⟩ := (hM.2 y).1 hy
        obtain ⟨z, hz, ez⟩ := (named_iff _ y.f0).1 n1
        refine ⟨?_, by rw [n2]; exact hpos _⟩
        rw [← ez]
        exact (List.mem_append.1 hz).elim (fun h => (((valid_iff a).1 h1).2.2 z h).1) (fun h => (((valid_iff b).1 h2).2.2 z h).1)⟩
      exact .inr ⟨M, rfl, hM, hV, fit_valid hV hv, t1⟩
  · rw [e1]; exact .inl (.inl rfl)
theorem minA_cons (L : List S57) (a : S57) (r : List S57) : minA L (a :: r) = minA (insS L a.f0 a.f1) r := rfl
theorem minA_spec : ∀ (a L : List S57), Rises a → Rises L → Rises (minA L a) ∧ ∀ y, y ∈ minA L a ↔ y ∈ a ∨ (y ∈ L ∧ ¬ named a y.f0 = true)
  | [], L, _, hL => ⟨hL, fun y => by simp [minA, named]⟩
  | x :: a, L, ha, hL => by
    obtain ⟨h1, h2⟩ := rises_cons.1 ha
    obtain ⟨i1, i2⟩ := minA_spec a (insS L x.f0 x.f1) h2 (rises_ins hL)
    rw [minA_cons]
    refine ⟨i1, fun y => ?_⟩
    have hx : ¬ named a x.f0 = true := by
      rw [named_iff]
      rintro ⟨z, hz, e⟩
      have := h1 z hz
      rw [e, nless_irrefl] at this
      cases this
    rw [i2, mem_ins hL, named_cons, List.mem_cons]
    constructor
    · rintro (h | ⟨h | ⟨h, h3⟩, h4⟩)
      · exact .inl (.inr h)
      · exact .inl (.inl h)
      · exact .inr ⟨h, fun h5 => h5.elim (fun e => h3 e.symm) h4⟩
    · rintro ((h | h) | ⟨h, h3⟩)
      · exact .inr ⟨.inl h, by rw [h]; exact hx⟩
      · exact .inl h
      · exact .inr ⟨.inr ⟨h, fun e => h3 (.inl e.symm)⟩, fun h4 => h3 (.inr h4)⟩
theorem minA_self {a : List S57} (h : Rises a) : minA [] a = a := by
  obtain ⟨h1, h2⟩ := minA_spec a [] h List.Pairwise.nil
  exact rises_eq h1 h (fun y => by rw [h2]; simp)
theorem minB_cons (L : List S57) (x : S57) (r : List S57) : minB L (x :: r) = if valOf L x.f0 < x.f1 then none else minB (insS L x.f0 (wrap64 (valOf L x.f0 - x.f1))) r := rfl
theorem minB_spec : ∀ (b L : List S57), Rises b → InV b → Rises L → InV L →
    ((∃ x ∈ b, valOf L x.f0 < x.f1) ∧ minB L b = none) ∨
    ((∀ x ∈ b, x.f1 ≤ valOf L x.f0) ∧ ∃ M, minB L b = some M ∧ Rises M ∧ ∀ y, y ∈ M ↔ (named L y.f0 = true ∨ named b y.f0 = true) ∧ y.f1 = valOf L y.f0 - valOf b y.f0)
  | [], L, _, _, hL, hv => by
    refine .inr ⟨fun x hx => (by simp at hx), L, rfl, hL, fun y => ?_⟩
    simp only [valOf, Int.sub_zero, named, List.any_nil, Bool.false_eq_true, or_false]
    constructor
    · intro hy
      exact ⟨(named_iff L y.f0).2 ⟨y, hy, rfl⟩, (val_mem hL hy).symm⟩
    · rintro ⟨h, h2⟩
      obtain ⟨z, hz, e⟩ := (named_iff L y.f0).1 h
      have h3 := val_mem hL hz
      rw [e, ← h2] at h3
      have : y = z := by cases y; cases z; simp only at e h3; subst e; rw [h3]
      rw [this]; exact hz
  | x :: b, L, hb, hvb, hL, hv => by
    obtain ⟨h1, h2⟩ := rises_cons.1 hb
    have hx := hvb x (by simp)
    have hvx := val_ok hL hv x.f0
    have hxb : ¬ named b x.f0 = true := by
      rw [named_iff]
      rintro ⟨z, hz, e⟩
      have := h1 z hz
      rw [e, nless_irrefl] at this
      cases this
    rw [minB_cons]
    by_cases hlt : valOf L x.f0 < x.f1
    · rw [if_pos hlt]
      exact .inl ⟨⟨x, by simp, hlt⟩, rfl⟩
    · rw [if_neg hlt]
      have hw : wrap64 (valOf L x.f0 - x.f1) = valOf L x.f0 - x.f1 := by unfold wrap64; omega
      rw [hw]
      clear hw
      have hL1 := rises_ins (x := x.f0) (v := valOf L x.f0 - x.f1) hL
      have hv1 : InV (insS L x.f0 (valOf L x.f0 - x.f1)) := fun y hy => by
        rcases (mem_ins hL).1 hy with rfl | ⟨hy, _⟩
        · exact ⟨by show 0 ≤ valOf L x.f0 - x.f1; omega, by show valOf L x.f0 - x.f1 ≤ _; omega⟩
        · exact hv y hy
      have hval : ∀ z ∈ b, valOf (insS L x.f0 (valOf L x.f0 - x.f1)) z.f0 = valOf L z.f0 := fun z hz => by
        rw [val_ins hL, if_neg]
        intro e
        exact hxb ((named_iff b x.f0).2 ⟨z, hz, e⟩)
      rcases minB_spec b _ h2 (fun y hy => hvb y (by simp [hy])) hL1 hv1 with ⟨⟨z, hz, hzl⟩, hE⟩ | ⟨hall, M, hE, hR, hmem⟩
      · refine .inl ⟨⟨z, by simp [hz], by rw [← hval z hz]; exact hzl⟩, hE⟩
      · refine .inr ⟨fun z hz => ?_, M, hE, hR, fun y => ?_⟩
        · rcases List.mem_cons.1 hz with rfl | hz
          · omega
          · rw [← hval z hz]; exact hall z hz
        · rw [hmem, val_ins hL, named_cons]
          have hn : named (insS L x.f0 (valOf L x.f0 - x.f1)) y.f0 = true ↔ named L y.f0 = true ∨ x.f0 = y.f0 := by
            rw [named_iff, named_iff]
            constructor
            · rintro ⟨z, hz, e⟩
              rcases (mem_ins hL).1 hz with rfl | ⟨hz, _⟩
              · exact .inr e
              · exact .inl ⟨z, hz, e⟩
            · rintro (⟨z, hz, e⟩ | e)
              · by_cases ez : z.f0 = x.f0
                · exact ⟨⟨x.f0, _⟩, (mem_ins hL).2 (.inl rfl), by rw [← e, ez]⟩
                · exact ⟨z, (mem_ins hL).2 (.inr ⟨hz, ez⟩), e⟩
              · exact ⟨⟨x.f0, _⟩, (mem_ins hL).2 (.inl rfl), e⟩
          have hvb2 : (if y.f0 = x.f0 then valOf L x.f0 - x.f1 else valOf L y.f0) - valOf b y.f0 = valOf L y.f0 - valOf (x :: b) y.f0 := by
            have e0 : valOf (x :: b) y.f0 = if x.f0 = y.f0 then x.f1 else valOf b y.f0 := rfl
            rw [e0]
            by_cases e : y.f0 = x.f0
            · rw [if_pos e, if_pos e.symm, e, val_none (L := b)]
              · omega
              · intro z hz e2
                exact hxb ((named_iff b x.f0).2 ⟨z, hz, e2⟩)
            · rw [if_neg e, if_neg (fun h => e h.symm)]
          rw [hn, hvb2]
          constructor
          · rintro ⟨(h | h) | h, h3⟩
            · exact ⟨.inl h, h3⟩
            · exact ⟨.inr (.inl h), h3⟩
            · exact ⟨.inr (.inr h), h3⟩
          · rintro ⟨h | h | h, h3⟩
            · exact ⟨.inl (.inl h), h3⟩
            · exact ⟨.inl (.inr h), h3⟩
            · exact ⟨.inr h, h3⟩
def minusP (a b : List S57) : List S57 × Int := if okP a b = true then minP a b else ([], 31)
theorem minus_evL {a b : List S57} (ha : Fit a) (hb : Fit b) : Ev (fun k => quant_Minus.f k a b) (minusP a b) := by
  refine Ev.bind (ok_ev ha hb) ?_
  unfold minusP
  cases h : okP a b with
  | false => exact Ev.congr (fun k => if_neg Bool.false_ne_true) (Ev.now _)
  | true =>
    obtain ⟨h1, h2⟩ := (okP_iff a b).1 h
    have hok : minOK a b = true := by
      unfold minOK
      rw [Bool.and_eq_true, Bool.and_eq_true, decide_eq_true_eq, List.all_eq_true, List.all_eq_true]
      refine ⟨⟨fun x hx => ?_, fun x hx => decide_eq_true (valid_names h2 x hx)⟩, ?_⟩
      · have hr := ha.2.2 x hx
        rw [Bool.and_eq_true, Bool.and_eq_true, decide_eq_true_eq, decide_eq_true_eq, decide_eq_true_eq]
        exact ⟨⟨valid_names h1 x hx, hr.1⟩, hr.2⟩
      · have := ha.1
        have := hb.1
        omega
    exact Ev.congr (fun k => if_pos rfl) (Ev.congr (fun k => if_pos hok) (Ev.now _))
theorem minus_cases {a b : List S57} (ha : Fit a) (hb : Fit b) (h1 : validP a = 0) (h2 : validP b = 0) :
    ((∃ x ∈ b, valOf a x.f0 < x.f1) ∧ minusP a b = ([], 1)) ∨
    ((∀ x ∈ b, x.f1 ≤ valOf a x.f0) ∧ ∃ M, minusP a b = (if M.length > 16 then ([], 23) else (M, 0)) ∧ Rises M ∧ ∀ y, y ∈ M ↔ (named a y.f0 = true ∨ named b y.f0 = true) ∧ y.f1 = valOf a y.f0 - valOf b y.f0) := by
  have r1 := ((valid_iff a).1 h1).2.1
  have r2 := ((valid_iff b).1 h2).2.1
  unfold minusP minP
  rw [if_pos ((okP_iff a b).2 ⟨h1, h2⟩), minA_self r1]
  rcases minB_spec b a r2 (valid_in h2 hb) r1 (valid_in h1 ha) with ⟨hx, hE⟩ | ⟨hall, M, hE, hR, hmem⟩
  · rw [hE]; exact .inl ⟨hx, rfl⟩
  · rw [hE]; exact .inr ⟨hall, M, rfl, hR, hmem⟩
end Go.Proofs.YtejgbdclhlolkaaGreatDoor.Q
namespace Go.Proofs.YtejgbdclhlolkaaGreatDoor.Q
end Go.Proofs.YtejgbdclhlolkaaGreatDoor.Q
namespace Go.Proofs.YtejgbdclhlolkaaGreatDoor.Q
end Go.Proofs.YtejgbdclhlolkaaGreatDoor.Q
namespace Go.Proofs.YtejgbdclhlolkaaGreatDoor.Q
end Go.Proofs.YtejgbdclhlolkaaGreatDoor.Q
namespace Go.Proofs.YtejgbdclhlolkaaGreatDoor.Q
open Go.RowKit Go.Proofs.YtejgbdclhlolkaaGreatDoorW.PrintWords Go.Proofs.YtejgbdclhlolkaaGreatDoorW.PrintLast Go.ChangeShapes
set_option linter.unusedVariables false
set_option linter.unusedSimpArgs false
section
variable {H : Type} (enc : TypeId × Value → H) (P : Program) (w : World) (base : Nat) (spare : Nat → Bool) (held : Bool)
def Opens (t : TypeId) {α : Type} (d : Kd α) (Rel : DataW H → α → Prop) : Prop :=
  ∀ (fuel : Nat) (cs : List Value) (x : DataW H × List MemPlace), DataW.trod enc P w base spare held fuel t cs = some x → ∃ a, d.K w a cs ∧ Rel x.1 a
def OpensFs {α : Type} (off : Nat) (fs : List Field) (d : Kd α) (Rel : List (DataW H) → α → Prop) : Prop :=
  ∀ (n : Nat) (cs : List Value) (xs : List (DataW H × List MemPlace)), xs.length = fs.length → cs.length = off + d.sz →
    (∀ (i : Nat) (f : Field), fs[i]? = some f → DataW.trod enc P w base spare held n f.type ((cs.drop f.offset).take (P.cellsOf f.type)) = xs[i]?) → ∃ a, d.K w a (cs.drop off) ∧ Rel (xs.map (·.1)) a
variable {enc : TypeId × Value → H} {P : Program} {w : World} {base : Nat} {spare : Nat → Bool} {held : Bool}
theorem opens_string {t : TypeId} (ht : P.underlying t = some .string) : Opens enc P w base spare held t Kd.string (fun x (s : ByteArray) => x = .lit (.string s.data.toList) ∧ s.size ≤ maxLen) := by
  intro fuel cs x h
  obtain ⟨s, rfl, rfl, hs⟩ := DataW.trod_string ht h
  exact ⟨s, rfl, rfl, hs⟩
theorem opens_int {t : TypeId} {k : IntKind} (ht : P.underlying t = some (.int k)) : Opens enc P w base spare held t (Kd.int k) (fun x (n : Int) => x = .lit (.int k n) ∧ (Lit.int k n).wf = true) := by
  intro fuel cs x h
  obtain ⟨s, rfl, rfl, hs⟩ := DataW.trod_int ht h
  exact ⟨s, rfl, rfl, hs⟩
theorem list_of {α : Type} {p : Nat → α → Prop} : ∀ n : Nat, (∀ i, i < n → ∃ x, p i x) → ∃ l : List α, l.length = n ∧ ∀ i x, l[i]? = some x → p i x
  | 0, _ => ⟨[], rfl, fun i x h => by simp at h⟩
  | n + 1, h => by
    obtain ⟨l, hl, hp⟩ := list_of n (fun i hi => h i (by omega))
    obtain ⟨x, hx⟩ := h n (by omega)
    refine ⟨l ++ [x], by simp [hl], fun i y hy => ?_⟩
    rcases Nat.lt_trichotomy i n with h1 | h1 | h1
    · rw [List.getElem?_append_left (by omega)] at hy; exact hp i y hy
    · subst h1
      rw [List.getElem?_append_right (by omega), hl, Nat.sub_self] at hy
      simp at hy
      exact hy ▸ hx
    · rw [List.getElem?_eq_none (by simp; omega)] at hy; cases hy
def RowD {H : Type} {α : Type} (Rel : DataW H → α → Prop) (x : DataW H) (l : List α) : Prop :=
  (x = .nil ∧ l = []) ∨ ∃ es r, x = .slice es r ∧ es.length = l.length ∧ ∀ (i : Nat) e a, es[i]? = some e → l[i]? = some a → Rel e a
theorem opens_slice {t e : TypeId} {α : Type} {d : Kd α} {Rel : DataW H → α → Prop} (e' : Nat) (ht : P.underlying t = some (.slice e)) (hc : P.cellsOf e = d.sz) (h : Opens enc P w base spare held e d Rel) :
    Opens enc P w base spare held t (Kd.slice e' d) (fun x l => RowD Rel x l ∧ l.length ≤ maxLen) := by
  intro fuel cs x hx
  have h63 : maxLen ≤ 9223372036854775807 := by decide
  rcases Go.Deep.open_slice ht hx with ⟨rfl, rfl⟩ | ⟨a, len, cap, m, n, D, Pl, rfl, hb, hl, hm, hmm, rfl, hi⟩
  · exact ⟨[], ⟨none, 0, rfl, Nat.le_refl _, rfl, Nat.zero_le _, fun h => absurd h (Nat.lt_irrefl 0)⟩, .inl ⟨rfl, rfl⟩, Nat.zero_le _⟩
  · have hlm : len ≤ m := by rw [hmm]; split <;> omega
    obtain ⟨l, hll, hp⟩ := list_of (α := α) (p := fun i y => ∃ cs', w.cells? base (a.add (i * P.cellsOf e)) (P.cellsOf e) = some cs' ∧ d.K w y cs' ∧ Rel (D i) y) len (fun i h1 => by
      obtain ⟨cs', h2, h3⟩ := hi i (by omega)
      obtain ⟨y, hy, hr⟩ := h n cs' _ h3
      exact ⟨y, cs', h2, hy, hr⟩)
    subst hll
    refine ⟨l, ⟨some a, cap, rfl, hl, rfl, by omega, fun _ => ⟨a, rfl, fun j p hj => ?_⟩⟩, .inr ⟨_, _, rfl, by simp, fun i e' a' h1 h2 => ?_⟩, by omega⟩
    · obtain ⟨cs', h2, h3, _⟩ := hp j p hj
      obtain ⟨_, h4, h5⟩ := World.cells?_some h2
      refine ⟨cs', by rw [h4, hc], h3, fun i u hu => ?_⟩
      have hil : i < cs'.length := (List.getElem?_eq_some_iff.1 hu).1
      have := h5 i (by omega)
      rw [hu, Go.Deep.add_add, hc] at this
      exact this
    · obtain ⟨_, _, _, h4⟩ := hp i a' h2
      have hil : i < l.length := (List.getElem?_eq_some_iff.1 h2).1
      simp [hil] at h1
      subst h1
      exact h4
theorem opens_one {f : Field} {off : Nat} {α : Type} {d : Kd α} {Rel : DataW H → α → Prop} (hf : f.offset = off) (hc : P.cellsOf f.type = d.sz) (h : Opens enc P w base spare held f.type d Rel) :
    OpensFs enc P w base spare held off [f] d (fun l a => ∃ y, l = [y] ∧ Rel y a) := by
  intro n cs xs hx hcs hi
  obtain ⟨x, rfl⟩ := List.length_eq_one_iff.1 (show xs.length = 1 from hx)
  have h0 := hi 0 f rfl
  rw [hf, hc, List.take_of_length_le (by rw [List.length_drop]; omega)] at h0
  obtain ⟨a, ha, hr⟩ := h n _ x h0
  exact ⟨a, ha, _, rfl, hr⟩
theorem opens_cons {f : Field} {fs : List Field} {off : Nat} {α β : Type} {d0 : Kd α} {d : Kd β} {R0 : DataW H → α → Prop} {R : List (DataW H) → β → Prop} (hf : f.offset = off) (hc : P.cellsOf f.type = d0.sz) (h0 : Opens enc P w base spare held f.type d0 R0)
    (h : OpensFs enc P w base spare held (off + d0.sz) fs d R) : OpensFs enc P w base spare held off (f :: fs) (Kd.pair d0 d) (fun l a => ∃ y r, l = y :: r ∧ R0 y a.1 ∧ R r a.2) := by
  intro n cs xs hx hcs hi
  cases xs with
  | nil => simp at hx
  | cons x xs =>
    have hsz : (Kd.pair d0 d).sz = d0.sz + d.sz := rfl
    rw [hsz] at hcs
    have h1 := hi 0 f rfl
    rw [hf, hc] at h1
    obtain ⟨a, ha, hr⟩ := h0 n _ x h1
    obtain ⟨b, hb, hs⟩ := h n cs xs (by simpa using hx) (by omega) (fun i g hg => hi (i + 1) g hg)
    refine ⟨(a, b), ⟨_, _, ?_, ha, hb⟩, _, _, rfl, hr, hs⟩
    rw [← List.drop_drop]
    exact (List.take_append_drop _ _).symm
theorem opens_struct {t : TypeId} {fs : Array Field} {α β : Type} {d : Kd α} {R : List (DataW H) → α → Prop} (f : β → α) (g : α → β) (hg : ∀ a, f (g a) = a) (ht : P.underlying t = some (.struct fs)) (hc : P.cellsOf t = d.sz) (h : OpensFs enc P w base spare held 0 fs.toList d R) :
    Opens enc P w base spare held t (Kd.iso d f) (fun x b => ∃ l, x = .agg l ∧ R l (f b)) := by
  intro fuel cs x hx
  obtain ⟨xs, n, _, rfl, hl, hxl, hi⟩ := DataW.trod_struct ht hx
  obtain ⟨a, ha, hr⟩ := h n cs xs (by simpa using hxl) (by rw [hl, hc, Nat.zero_add]) (fun i g hg' => hi i g (by rw [← Array.getElem?_toList]; exact hg'))
  rw [List.drop_zero] at ha
  refine ⟨g a, ?_, _, rfl, ?_⟩
  · show d.K w (f (g a)) cs
    rw [hg]; exact ha
  · rw [hg]; exact hr
theorem row_open {t e : TypeId} {α : Type} {d : Kd α} {Rel : DataW H → α → Prop} {A : Option Addr} {len cap : Nat} {x : DataW H} {ps : List MemPlace} (ht : P.underlying t = some (.slice e)) (hc : P.cellsOf e = d.sz)
    (h : Opens enc P w base spare held e d Rel) (hx : ∃ m, DataW.trod enc P w base spare held m t [.slice A len cap] = some (x, ps)) :
    ∃ l : List α, len = l.length ∧ d.C w A l.length l ∧ l.length ≤ cap ∧ RowD Rel x l ∧ l.length ≤ maxLen := by
  obtain ⟨m, hm⟩ := hx
  obtain ⟨l, ⟨A', c', he, hlc, hC⟩, hr, hml⟩ := opens_slice 0 ht hc h m _ _ hm
  injection he with he _
  injection he with h1 h2 h3
  subst h1 h2 h3
  exact ⟨l, rfl, hC, hlc, hr, hml⟩
end
theorem bulk_pos {H : Type} (d : DataW H) : 1 ≤ Rows.uptoBulk d := by
  cases d with
  | lit l => cases l <;> simp only [Rows.uptoBulk] <;> omega
  | nil => simp only [Rows.uptoBulk]; omega
  | ptr d => simp only [Rows.uptoBulk]; omega
  | slice a b => simp only [Rows.uptoBulk]; omega
  | agg p => simp only [Rows.uptoBulk]; omega
  | iface a d => simp only [Rows.uptoBulk]; omega
  | map e => simp only [Rows.uptoBulk]; omega
  | _ => simp only [Rows.uptoBulk]; omega
theorem bulk_all {H : Type} : ∀ l : List (DataW H), l.length ≤ Rows.uptoBulkAll l ∧ ∀ (i : Nat) x, l[i]? = some x → Rows.uptoBulk x ≤ Rows.uptoBulkAll l
  | [] => ⟨Nat.zero_le _, fun i x h => by simp at h⟩
  | d :: l => by
    obtain ⟨h1, h2⟩ := bulk_all l
    have hp := bulk_pos d
    simp only [Rows.uptoBulkAll, List.length_cons]
    refine ⟨by omega, fun i x h => ?_⟩
    cases i with
    | zero => simp at h; subst h; omega
    | succ i => have := h2 i x (by simpa using h); omega
theorem bulk_row {H : Type} {α : Type} {Rel : DataW H → α → Prop} {x : DataW H} {l : List α} (h : RowD Rel x l) : l.length ≤ Rows.uptoBulk x ∧ ∀ (i : Nat) a, l[i]? = some a → ∃ e, Rel e a ∧ Rows.uptoBulk e ≤ Rows.uptoBulk x := by
  rcases h with ⟨rfl, rfl⟩ | ⟨es, r, rfl, hl, he⟩
  · exact ⟨Nat.zero_le _, fun i a h => by simp at h⟩
  · obtain ⟨h1, h2⟩ := bulk_all es
    simp only [Rows.uptoBulk]
    refine ⟨by omega, fun i a ha => ?_⟩
    have hil : i < es.length := by rw [hl]; exact (List.getElem?_eq_some_iff.1 ha).1
    have hes : es[i]? = some es[i] := List.getElem?_eq_getElem hil
    exact ⟨es[i], he i _ _ hes ha, by have := h2 i _ hes; omega⟩
theorem bulk_agg {H : Type} {l : List (DataW H)} (i : Nat) (x : DataW H) (h : l[i]? = some x) : Rows.uptoBulk x ≤ Rows.uptoBulk (.agg l) := by
  have := (bulk_all l).2 i x h
  simp only [Rows.uptoBulk]
  omega
theorem bulk_str {H : Type} (s : ByteArray) : s.size ≤ Rows.uptoBulk (.lit (.string s.data.toList) : DataW H) := by
  simp only [Rows.uptoBulk, Array.length_toList]
  have : s.data.size = s.size := rfl
  omega
end Go.Proofs.YtejgbdclhlolkaaGreatDoor.Q
namespace Go.Proofs.YtejgbdclhlolkaaGreatDoor.Q
open Go.RowKit Go.Proofs.YtejgbdclhlolkaaGreatDoorW.PrintWords Go.Proofs.YtejgbdclhlolkaaGreatDoorW.PrintLast Go.ChangeShapes
set_option linter.unusedVariables false
set_option linter.unusedSimpArgs false
def StrD {H : Type} (x : DataW H) (s : ByteArray) : Prop := x = .lit (.string s.data.toList) ∧ s.size ≤ maxLen
def AmD {H : Type} (x : DataW H) (b : S57) : Prop := ∃ l, x = .agg l ∧ ∃ y r, l = y :: r ∧ StrD y b.f0 ∧ ∃ y2, r = [y2] ∧ (y2 = .lit (.int .i64 b.f1) ∧ (Lit.int .i64 b.f1).wf = true)
section
variable {H : Type} {enc : TypeId × Value → H} {w : World} {base : Nat} {spare : Nat → Bool} {held : Bool}
theorem opens57 : Opens enc Tryz.prog w base spare held 57 k57 AmD :=
  opens_struct (fun x : S57 => (x.f0, x.f1)) (fun a => ⟨a.1, a.2⟩) (fun _ => rfl) Tryz.underlying57 (by kernel_rfl)
    (opens_cons rfl (by kernel_rfl) (opens_string Tryz.underlying9) (opens_one rfl (by kernel_rfl) (opens_int Tryz.underlying2)))
end
def Small57 (l : List S57) : Prop := l.length ≤ 1048576 ∧ ∀ x ∈ l, x.f0.size ≤ 1048576 ∧ -9223372036854775808 ≤ x.f1 ∧ x.f1 ≤ 9223372036854775807
theorem small57 {H : Type} {d : DataW H} {l : List S57} (h : RowD AmD d l) (hb : Rows.uptoBulk d ≤ 1048576) : Small57 l := by
  obtain ⟨h1, h2⟩ := bulk_row h
  refine ⟨by omega, fun t ht => ?_⟩
  obtain ⟨i, hi, rfl⟩ := List.getElem_of_mem ht
  obtain ⟨e, ⟨l', rfl, y, r, rfl, ⟨rfl, _⟩, y2, rfl, ⟨rfl, hw⟩⟩, he⟩ := h2 i _ (List.getElem?_eq_getElem hi)
  have b1 := bulk_agg (l := [.lit (.string l[i].f0.data.toList), .lit (.int .i64 l[i].f1)]) 0 (.lit (.string l[i].f0.data.toList) : DataW H) rfl
  have b2 := bulk_str (H := H) l[i].f0
  simp only [Lit.wf, IntKind.min, IntKind.max, IntKind.signed, IntKind.bits, Bool.and_eq_true, decide_eq_true_eq, if_true] at hw
  exact ⟨by omega, by omega, by omega⟩
end Go.Proofs.YtejgbdclhlolkaaGreatDoor.Q
namespace Go.Proofs.YtejgbdclhlolkaaGreatDoor.Pure
open Go.RowKit Go.Proofs.YtejgbdclhlolkaaGreatDoorW.PrintWords Go.Proofs.YtejgbdclhlolkaaGreatDoorW.PrintLast Go.Proofs.YtejgbdclhlolkaaGreatDoor.Q
set_option linter.unusedVariables false
set_option linter.unusedSimpArgs false
theorem fit_smallL {l : List S57} (c : Small57 l) : Fit l := ⟨c.1, fun a ha => by have := (c.2 a ha).1; omega, fun a ha => (c.2 a ha).2⟩
theorem len_plus {a b : List S57} (ha : Fit a) (hb : Fit b) : (plusP a b).1.length ≤ 1048576 := by
  by_cases hv : validP a = 0 ∧ validP b = 0
  · rcases plus_cases ha hb hv.1 hv.2 with (h | h) | ⟨M, hM, _, _, hF, _⟩
    · rw [h]; decide
    · rw [h]; decide
    · rw [hM]; exact hF.1
  · unfold plusP
    rw [if_neg (by rw [okP_iff]; exact hv)]
    decide
theorem len_minus {a b : List S57} (ha : Fit a) (hb : Fit b) : (minusP a b).1.length ≤ 1048576 := by
  by_cases hv : validP a = 0 ∧ validP b = 0
  · rcases minus_cases ha hb hv.1 hv.2 with ⟨_, h⟩ | ⟨_, M, hM, _⟩
    · rw [h]; decide
    · rw [hM]
      by_cases h16 : M.length > 16
      · rw [if_pos h16]; decide
      · rw [if_neg h16]; show M.length ≤ 1048576; omega
  · unfold minusP
    rw [if_neg (by rw [okP_iff]; exact hv)]
    decide
theorem len_normal {a : List S57} (ha : Fit a) : (normalP a).1.length ≤ 1048576 := by
  rcases normal_cases a (fun x hx => (ha.2.2 x hx).2) with (h | h | h) | ⟨M, hM, _, hV, _⟩
  · rw [h]; decide
  · rw [h]; decide
  · rw [h]; decide
  · rw [hM]
    have := ((valid_iff M).1 hV).1
    show M.length ≤ 1048576
    omega
end Go.Proofs.YtejgbdclhlolkaaGreatDoor.Pure
namespace Go.Proofs.YtejgbdclhlolkaaGreatDoor.Pure
open Go.RowKit Go.Proofs.YtejgbdclhlolkaaGreatDoorW.PrintWords Go.Proofs.YtejgbdclhlolkaaGreatDoorW.PrintLast Go.Proofs.YtejgbdclhlolkaaGreatDoor.Q
set_option linter.unusedVariables false
set_option linter.unusedSimpArgs false
theorem QuantApart (a b : List S57) (c0 : Small57 a) (c1 : Small57 b) : ∃ k, bursarlaw03_QuantApart.f k a b = some true := by
  have ha := fit_smallL c0
  have hb := fit_smallL c1
  have h1 := ha.1
  have h2 := hb.1
  have l1 := len_normal ha
  have l2 := len_plus ha hb
  have l3 := len_minus ha hb
  have l4 := len_minus ha Fit.nil
  refine Ev.rounds ?_
  refine Ev.bind known_ev (Ev.congr (fun k => if_pos rfl) (Ev.bind (normal_ev a (by omega) ha.2.1) (Ev.bind (plus_evL ha hb) (Ev.bind (minus_evL ha hb) (Ev.bind (minus_evL ha Fit.nil) (Ev.bind (untouched_ev a (by omega)) (Ev.bind (untouched_ev b (by omega)) ?_)))))))
  exact Ev.congr (f := fun _ => some true) (fun k => if_pos ⟨rfl, rfl, ⟨by omega, by omega⟩, by omega, by omega, by omega, by omega⟩) (Ev.now _)
end Go.Proofs.YtejgbdclhlolkaaGreatDoor.Pure
namespace Go.Proofs.YtejgbdclhlolkaaGreatDoor.Q
open Go.RowKit Go.Lib Go.ChangeShapes Go.Proofs.YtejgbdclhlolkaaGreatDoorW.PrintWords Go.Proofs.YtejgbdclhlolkaaGreatDoorW.PrintLast
set_option linter.unusedVariables false
set_option linter.unusedSimpArgs false
theorem laid_one {P : Program} {w : World} {l : List (String × DataW Unit)} {n : String} {d : DataW Unit} (h : laidMetH P l w) (hl : (l.filter fun x => x.1 == n) = [(n, d)]) (hd : d.handleName? = none) : laidMet P [(n, d)] w := by
  have h1 := h.filter (fun x => x.1 == n)
  rw [hl] at h1
  have h2 := (laidMetH_iff.1 h1).1
  have e : ([(n, d)] : List (String × DataW Unit)).filter (fun x => x.2.handleName?.isNone) = [(n, d)] := by simp [List.filter_cons, hd]
  rw [e] at h2
  exact h2
theorem struct_si {H : Type} {enc : TypeId × Value → H} {P : Program} {w : World} {base : Nat} {sp : Nat → Bool} {held : Bool} {fuel : Nat} {t : TypeId} {f0 f1 : Field} {k : IntKind} {cs : List Value} {l : List UInt8} {v : Int} {p : List MemPlace}
    (ht : P.underlying t = some (.struct #[f0, f1])) (h0 : P.underlying f0.type = some .string) (h1 : P.underlying f1.type = some (.int k)) (o0 : f0.offset = 0) (o1 : f1.offset = 1) (c0 : P.cellsOf f0.type = 1) (c1 : P.cellsOf f1.type = 1) (c : P.cellsOf t = 2)
    (h : DataW.trod enc P w base sp held fuel t cs = some (.agg [.lit (.string l), .lit (.int k v)], p)) : cs = [.string ⟨l.toArray⟩, .int k v] := by
  obtain ⟨y0, y1, n, hx, hl, e0, e1⟩ := trod_struct2 ht h
  rw [o0, c0] at e0
  rw [o1, c1] at e1
  rw [c] at hl
  injection hx with hx _
  injection hx with hx
  injection hx with hx0 hx
  injection hx with hx1 _
  match cs, hl with
  | [a, b], _ =>
    simp only [List.drop_zero, List.take_succ_cons, List.take_zero, List.drop_succ_cons] at e0 e1
    obtain ⟨s, hs, rfl, _⟩ := DataW.trod_string h0 e0
    obtain ⟨z, hz, rfl, _⟩ := DataW.trod_int h1 e1
    injection hs with hs _
    injection hz with hz _
    subst hs hz
    simp only [DataW.lit.injEq, Lit.string.injEq, Lit.int.injEq, true_and] at hx0 hx1
    subst hx0 hx1
    rfl
theorem arr_at {H : Type} {enc : TypeId × Value → H} {P : Program} {w : World} {base : Nat} {sp : Nat → Bool} {held : Bool} {fuel : Nat} {t e : TypeId} {n : Nat} {cs : List Value} {ds : List (DataW H)} {p : List MemPlace}
    (ht : P.underlying t = some (.array n e)) (h : DataW.trod enc P w base sp held fuel t cs = some (.agg ds, p)) (i : Nat) (hi : i < n) : ∃ f d q, ds[i]? = some d ∧ DataW.trod enc P w base sp held f e ((cs.drop (i * P.cellsOf e)).take (P.cellsOf e)) = some (d, q) := by
  cases fuel with
  | zero => simp [DataW.trod] at h
  | succ fuel =>
    simp only [DataW.trod, ht] at h
    split at h
    · obtain ⟨xs, hm, hx⟩ := Option.map_eq_some_iff.1 h
      injection hx with hx _
      injection hx with hx
      obtain ⟨b, hb, hf⟩ := mapM_at hm i i (by simp [hi])
      exact ⟨fuel, b.1, b.2, by rw [← hx]; simp [hb], hf⟩
    · cases h
theorem units_laid {w : World} (h : laidMet Tryz.prog [("bursar/quant.units", Rows.laid_bursar_quant_units)] w) : ∀ j x, unitCells[j]? = some x → w.cell? ⟨1, j, none⟩ = some x := by
  obtain ⟨ps, ⟨g', t', cs, fuel, p, q, hg', ht', hvar, hd, _, _⟩, _⟩ := h
  obtain rfl : g' = 1 := Option.some.inj (hg'.symm.trans (by kernel_rfl))
  obtain rfl : t' = 67 := Option.some.inj (ht'.symm.trans (by kernel_rfl))
  intro j x hx
  rw [World.var?_cell hg' hvar j]
  have hj : j < 24 := (List.getElem?_eq_some_iff.1 hx).1
  obtain ⟨f, d, q', hd1, hd2⟩ := arr_at Tryz.underlying67 hd (j / 2) (by omega)
  rw [show Tryz.prog.cellsOf 66 = 2 by kernel_rfl] at hd2
  have key : ∀ (l : List UInt8) (v : Int), d = .agg [.lit (.string l), .lit (.int .u64 v)] → ((cs.toList.drop (j / 2 * 2)).take 2) = [.string ⟨l.toArray⟩, .int .u64 v] := fun l v e => by
    subst e
    exact struct_si Tryz.underlying66 Tryz.underlying9 Tryz.underlying36 rfl rfl (by kernel_rfl) (by kernel_rfl) (by kernel_rfl) hd2
  have get : ∀ (a b : Value), ((cs.toList.drop (j / 2 * 2)).take 2) = [a, b] → cs[j]? = if j % 2 = 0 then some a else some b := fun a b e => by
    have e1 : ((cs.toList.drop (j / 2 * 2)).take 2)[j % 2]? = [a, b][j % 2]? := by rw [e]
    rw [List.getElem?_take_of_lt (by omega), List.getElem?_drop, show j / 2 * 2 + j % 2 = j by omega, Array.getElem?_toList] at e1
    rw [e1]
    obtain h | h : j % 2 = 0 ∨ j % 2 = 1 := by omega
    · rw [h]; rfl
    · rw [h]; rfl
  obtain rfl | rfl | rfl | rfl | rfl | rfl | rfl | rfl | rfl | rfl | rfl | rfl | rfl | rfl | rfl | rfl | rfl | rfl | rfl | rfl | rfl | rfl | rfl | rfl : j = 0 ∨ j = 1 ∨ j = 2 ∨ j = 3 ∨ j = 4 ∨ j = 5 ∨ j = 6 ∨ j = 7 ∨ j = 8 ∨ j = 9 ∨ j = 10 ∨ j = 11 ∨ j = 12 ∨ j = 13 ∨ j = 14 ∨ j = 15 ∨ j = 16 ∨ j = 17 ∨ j = 18 ∨ j = 19 ∨ j = 20 ∨ j = 21 ∨ j = 22 ∨ j = 23 := by omega
  all_goals
    rw [get _ _ (key _ _ (Option.some.inj hd1).symm)]
    exact hx
theorem mark_laid {w : World} (h : laidMet Tryz.prog [("bursar/bursarlaw03.mark", Rows.laid_bursar_bursarlaw03_mark)] w) : w.cell? ⟨0, 0, none⟩ = some (.string ⟨#[109, 97, 114, 107]⟩) ∧ w.cell? ⟨0, 1, none⟩ = some (.int .i64 77) := by
  obtain ⟨ps, ⟨g', t', cs, fuel, p, q, hg', ht', hvar, hd, _, _⟩, _⟩ := h
  obtain rfl : g' = 0 := Option.some.inj (hg'.symm.trans (by kernel_rfl))
  obtain rfl : t' = 57 := Option.some.inj (ht'.symm.trans (by kernel_rfl))
  rw [World.var?_cell hg' hvar 0, World.var?_cell hg' hvar 1]
  have e := struct_si Tryz.underlying57 Tryz.underlying9 Tryz.underlying2 rfl rfl (by kernel_rfl) (by kernel_rfl) (by kernel_rfl) hd
  rw [← Array.getElem?_toList, ← Array.getElem?_toList, e]
  exact ⟨rfl, rfl⟩
theorem tab_laid {w : World} (h : laidMet Tryz.prog [("internal/strconv.uint64pow10", Rows.laid_internal_strconv_uint64pow10)] w) : Lib.TabIs Tryz.prog w "internal/strconv.uint64pow10" .u64 Lib.pow10Tab :=
  Lib.tabIs_of_head (g := 4) (t := 130) (e := 36) (n := 20) (by kernel_rfl) (by kernel_rfl) Tryz.underlying130 Tryz.underlying36 (by kernel_rfl) (by kernel_rfl) h
theorem globM_of {W : World} (hsh : W.ShapedOpen Tryz.prog) (h : laidMetH Tryz.prog Rows.quantFindsRow.laid W) : GlobM W :=
  ⟨⟨Tryz.laysM146.s1_3 W hsh, tab_laid (laid_one h rfl rfl), units_laid (laid_one h rfl rfl)⟩, (mark_laid (laid_one h rfl rfl)).1, (mark_laid (laid_one h rfl rfl)).2⟩
end Go.Proofs.YtejgbdclhlolkaaGreatDoor.Q
namespace Go.Proofs.YtejgbdclhlolkaaGreatDoor.quantApart
open Go.ChangeShapes Go.WideShapes Go.ChangeAt Go.RowKit
open Go.ChangeMaps (open_string shut_string)
set_option linter.unusedVariables false
set_option linter.unusedSimpArgs false
theorem own : ownKnob Tryz.prog.godebug = none := by kernel_rfl
theorem laidOut : laidOutB Tryz.prog = true := by kernel_rfl
set_option maxRecDepth 100000 in
theorem contract (H : Type) (enc : TypeId × Value → H) (W : World) (base : Nat) (args : Array Value) (ds gs : List (DataW H)) (before : List MemPlace)
    (hval0 : ∀ (j : Nat) t v, Tryz.f13.params[j]? = some t → args[j]? = some v → Value.okWide Tryz.prog W .any base t v)
    (hW : DataW.Whole enc Tryz.prog Tryz.f13.params.toList Rows.quantApartSpec.vars false W args.toList ds gs before)
    (hk : Rows.uptoSmall H (ds ++ gs) = true)
    (hsh : W.ShapedOpen Tryz.prog)
    (hl : laidMetH Tryz.prog Rows.quantApartUptoRow.laid W)
    : Calls Tryz.prog 13 args W fun e W' => ∃ v, e = .returned v ∧ Rows.quantApartSpec.post enc Tryz.prog Tryz.f13 false true false false W args v W' := by
  have hval : ∀ (j : Nat) t v, Tryz.f13.params[j]? = some t → args[j]? = some v → Value.okWide Tryz.prog W .any base t v := hval0
  have hW' := hW
  obtain ⟨p, q, hA0, hV, rfl, hfz, hnd⟩ := hW
  have hA : DataW.TrodAll enc Tryz.prog W 0 (fun _ => true) true Tryz.f13.params.toList args.toList ds p := hA0
  rw [Tryz.params13] at hA hval
  obtain ⟨v0, vs0, d0, ds0, p0, q0, hargs, rfl, rfl, h0, r0⟩ := trodAll_cons hA
  obtain ⟨v1, vs1, d1, ds1, p1, q1, rfl, rfl, rfl, h1, r1⟩ := trodAll_cons r0
  obtain ⟨rfl, rfl, rfl⟩ := trodAll_nil r1
  obtain rfl : args = #[v0, v1] := by cases args; simp_all
  obtain ⟨rfl, rfl⟩ := trodVars_none hV
  obtain ⟨A0, len0, cap0, rfl⟩ := okWide_slice Tryz.underlying46 (hval 0 46 v0 rfl rfl)
  have k0 := h0
  have lt0 : ∀ x ∈ p0, x.block < W.heap.size := by obtain ⟨m, hm⟩ := k0; exact DataW.trod_lt m _ _ _ hm
  obtain ⟨l0, rfl, hr0, hc0, hz0, hm0⟩ := Q.row_open Tryz.underlying46 (by kernel_rfl) Q.opens57 h0
  obtain ⟨A1, len1, cap1, rfl⟩ := okWide_slice Tryz.underlying46 (hval 1 46 v1 rfl rfl)
  have k1 := h1
  have lt1 : ∀ x ∈ p1, x.block < W.heap.size := by obtain ⟨m, hm⟩ := k1; exact DataW.trod_lt m _ _ _ hm
  obtain ⟨l1, rfl, hr1, hc1, hz1, hm1⟩ := Q.row_open Tryz.underlying46 (by kernel_rfl) Q.opens57 h1
  have hb := of_decide_eq_true hk
  simp only [List.append_nil, List.cons_append, List.nil_append, Rows.uptoBulkAll, Rows.uptoBulk, Array.length_toList] at hb
  have c0 : Q.Small57 l0 := Q.small57 hz0 (by omega)
  have c1 : Q.Small57 l1 := Q.small57 hz1 (by omega)
  obtain ⟨k, hp⟩ := Pure.QuantApart l0 l1 c0 c1
  refine (Q.bursarlaw03_QuantApart.calls k A0 cap0 l0 A1 cap1 l1 true W hr0 hc0 hr1 hc1 hp (Q.globM_of hsh hl)).mono fun e W' ⟨he, bel⟩ => ?_
  subst he
  exact ⟨_, rfl, _, _, _, [], _, [], hW', trodAll_mk1 (shut_bool Tryz.underlying4 _), (trodAll_cons_mk (Below.trod laidOut (by kernel_rfl) (of_decide_eq_true (by kernel_rfl)) k0 bel lt0) (trodAll_cons_mk (Below.trod laidOut (by kernel_rfl) (of_decide_eq_true (by kernel_rfl)) k1 bel lt1) trodAll_mk0)), rfl, bel.frame _, fun h => by cases h⟩
noncomputable def tab1 : Obj → Obj
  | .cells _ t frozen => .cells (Go.Pinned.utf8FirstZ.map fun (n : Nat) => Value.int .u8 (n : Int)).toArray t frozen
  | o => o
noncomputable def laidWorld (os : Os) : World :=
  { World.doorLaid Tryz.prog 94 os with heap := (World.doorLaid Tryz.prog 94 os).heap.modify 10 tab1 }
theorem laid_met (os : Os) : laidMet Tryz.prog Rows.quantApartRow.laid ((laidWorld os).forCall (fun _ _ => 0) ⟨#[], #[.slice none 0 0, .slice none 0 0], []⟩).memory :=
  laidMet_of_run' 8 (by kernel_rfl) (by kernel_rfl)
theorem reads (os : Os) {H : Type} (enc : TypeId × Value → H) : ∃ places, DataW.whole enc Tryz.prog ((laidWorld os).forCall (fun _ _ => 0) ⟨#[], #[.slice none 0 0, .slice none 0 0], []⟩).memory Tryz.f13.params.toList Rows.quantApartSpec.vars false (#[.slice none 0 0, .slice none 0 0] : Array Value).toList 8 = some ([.nil, .nil], [], places) :=
  ⟨[], by kernel_rfl⟩
set_option maxRecDepth 100000 in
theorem lifted (os : Os) (started : os.Started) (H : Type) (enc : TypeId × Value → H) (F : Stop.Interp) :
    ReturnsInHanded {} Tryz.checked os 13 .any ((Rows.OpenSpec.upto Rows.quantApartSpec).preRow enc Tryz.prog Tryz.f13 Rows.quantApartUptoRow.domain false Rows.quantApartUptoRow.laid) (((Rows.OpenSpec.upto Rows.quantApartSpec).at F).post enc Tryz.prog Tryz.f13 false true false false) := by
  obtain ⟨places, hx⟩ := reads os enc
  refine returnsInHanded_of_row (C := Tryz.checked) (s := Rows.OpenSpec.upto Rows.quantApartSpec) own started (by kernel_rfl) Tryz.func13
    (witness_row_at (enc := enc) (C := Tryz.checked) false (laidWorld os) #[.slice none 0 0, .slice none 0 0] rfl (by kernel_rfl) (by kernel_rfl) (by kernel_rfl)
      (OpenSpec.preRow_of_cond 8 hx (by kernel_rfl) (fun k hk => by cases hk; kernel_rfl) (by kernel_rfl) (laid_met os))) ?_
  intro W base args ds gs before hval hW _ hcond hsz hl hsh _
  exact contract H enc W base args ds gs before hval hW (hcond _ rfl) hsh hl
theorem said : Rows.QuantApartUptoSaid :=
  OpenClaim.holds_of_cond 13 Tryz.f13 rfl rfl rfl rfl rfl rfl rfl ⟨rfl, rfl, rfl, rfl, rfl⟩ rfl rfl rfl rfl rfl (by kernel_rfl) Tryz.func13 (by kernel_rfl)
    (of_decide_eq_true (by kernel_rfl)) (by unfold Func.isWrapper; first | (rw [if_pos (by decide +kernel)]; kernel_rfl) | (rw [if_neg (by decide +kernel)]; exact ⟨rfl, rfl⟩))
    (fun os started H enc _ F => by rw [OpenClaim.pre_eq_preRow]; exact lifted os started H enc F)
theorem plain (f : FuncId) (fn : Func) (hf : Tryz.pinned.checked.prog.funcNamed "bursar/bursarlaw03.QuantApart" = some f) (hfn : Tryz.pinned.checked.prog.funcs[f]? = some fn) :
    true = Tryz.pinned.checked.prog.looks [] ∧ ∀ (j : Nat) t, fn.params[j]? = some t → Tryz.pinned.checked.prog.wantsStandIn t = false := by
  obtain rfl : f = 13 := Option.some.inj ((show Tryz.prog.funcNamed "bursar/bursarlaw03.QuantApart" = some 13 by kernel_rfl).symm.trans hf) |>.symm
  obtain rfl : fn = Tryz.f13 := (Option.some.inj (Tryz.func13.symm.trans hfn)).symm
  refine ⟨by kernel_rfl, fun j t ht => ?_⟩
  rw [Tryz.params13] at ht
  have hall : ∀ x ∈ [46, 46], Tryz.prog.wantsStandIn x = false := by
    intro x hx; simp only [List.mem_cons, List.mem_nil_iff, or_false] at hx; rcases hx with rfl | rfl <;> kernel_rfl
  exact hall t (by simpa using Array.mem_of_getElem? ht)
theorem card : Rows.QuantApartUptoCardSaid :=
  Claim7.holds_tied_plain_at .later [] _ _ _ _ said (fun _ h => by cases h) (by kernel_rfl) (fun _ h => by cases h) quantApartUpto_row_tie rfl ⟨rfl, rfl⟩ (by kernel_rfl) rfl plain (by kernel_rfl)
end Go.Proofs.YtejgbdclhlolkaaGreatDoor.quantApart
namespace Go.Proofs.YtejgbdclhlolkaaGreatDoor
theorem quantApart_holds : Rows.QuantApartUptoCardSaid := quantApart.card
end Go.Proofs.YtejgbdclhlolkaaGreatDoor
