/- What the statement QuantListsUptoCardSaid rests on, part 7 of 7: walks and plain laws; what of the printer's words it leans on. -/
import Derived.Test.YtejgbdclhlolkaaGreatDoorRows
import Derived.Test.YtejgbdclhlolkaaGreatDoorCards
import Derived.Test.YtejgbdclhlolkaaGreatDoorTie
import Derived.Test.YtejgbdclhlolkaaGreatDoorMQL3
import Derived.Test.YtejgbdclhlolkaaGreatDoorMQL4
import Derived.Test.YtejgbdclhlolkaaGreatDoorMQL5
import Derived.Test.YtejgbdclhlolkaaGreatDoorMQL6
import Derived.Deep.Slices
import Derived.ChangeArms
import Derived.ProofKit
import Derived.LaidSub
import Derived.Lib.LaidTab
import Derived.ChangeSame
import Derived.WalkKit
import Derived.OpenShut
import Derived.ShutString
import Derived.ChangeOld
import Derived.Below
import Derived.SizedLaws
import Derived.Deep.DeepHandedRow
import Derived.LaidMore
namespace Go.Proofs.YtejgbdclhlolkaaGreatDoor.Q
open Go.RowKit Go.Lib Go.Proofs.YtejgbdclhlolkaaGreatDoorW.PrintWords Go.Proofs.YtejgbdclhlolkaaGreatDoorW.PrintLast
set_option linter.unusedVariables false
set_option linter.unusedSimpArgs false
def Fit (l : List S57) : Prop := l.length ≤ 1048576 ∧ (∀ a ∈ l, a.f0.size < 4611686018427387904) ∧ ∀ a ∈ l, -9223372036854775808 ≤ a.f1 ∧ a.f1 ≤ 9223372036854775807
theorem Fit.nil : Fit [] := ⟨by decide, fun a ha => (by simp at ha), fun a ha => (by simp at ha)⟩
def okP (a b : List S57) : Bool := decide (validP a = 0) && decide (validP b = 0)
theorem okP_iff (a b : List S57) : okP a b = true ↔ validP a = 0 ∧ validP b = 0 := by unfold okP; rw [Bool.and_eq_true, decide_eq_true_eq, decide_eq_true_eq]
theorem ok_ev {a b : List S57} (ha : Fit a) (hb : Fit b) : Ev (fun k => quant_valid.f k a b) (okP a b) := both_ev a b ha.1 hb.1 ha.2.1 hb.2.1
theorem valid_in {l : List S57} (h : validP l = 0) (hl : Fit l) : InV l := fun a ha => ⟨(((valid_iff l).1 h).2.2 a ha).2, (hl.2.2 a ha).2⟩
theorem valid_names {l : List S57} (h : validP l = 0) : ∀ a ∈ l, a.f0.size ≤ 48 := fun a ha => resP_size (((valid_iff l).1 h).2.2 a ha).1
theorem fit_valid {l : List S57} (h : validP l = 0) (hv : ∀ a ∈ l, a.f1 ≤ 9223372036854775807) : Fit l :=
  ⟨by have := ((valid_iff l).1 h).1; omega, fun a ha => by have := valid_names h a ha; omega, fun a ha => ⟨by have := (((valid_iff l).1 h).2.2 a ha).2; omega, hv a ha⟩⟩
def plusP (a b : List S57) : List S57 × Int := if okP a b = true then quant_summed.f [a, b] else ([], 31)
theorem flat2 (a b : List S57) : [a, b].flatten = a ++ b := by simp
theorem plus_evL {a b : List S57} (ha : Fit a) (hb : Fit b) : Ev (fun k => quant_Plus.f k a b) (plusP a b) := by
  refine Ev.bind (ok_ev ha hb) ?_
  unfold plusP
  cases h : okP a b with
  | false => exact Ev.congr (fun k => if_neg Bool.false_ne_true) (Ev.now _)
  | true =>
    obtain ⟨h1, h2⟩ := (okP_iff a b).1 h
    have hok : sumOK [a, b] = true := by
      unfold sumOK
      rw [Bool.and_eq_true, decide_eq_true_eq, List.all_eq_true]
      refine ⟨fun r hr => ?_, ?_⟩
      · rw [List.all_eq_true]
        intro x hx
        rcases List.mem_cons.1 hr with rfl | hr
        · exact decide_eq_true (valid_names h1 x hx)
        · rw [List.mem_singleton] at hr; subst hr; exact decide_eq_true (valid_names h2 x hx)
      · rw [flat2, List.length_append]
        have := ha.1
        have := hb.1
        omega
    exact Ev.congr (fun k => if_pos rfl) (Ev.congr (fun k => if_pos hok) (Ev.now _))
theorem inv_app {a b : List S57} (ha : InV a) (hb : InV b) : InV (a ++ b) := fun x hx => (List.mem_append.1 hx).elim (ha x) (hb x)
theorem named_app (a b : List S57) (x : ByteArray) : named (a ++ b) x = true ↔ named a x = true ∨ named b x = true := by
  rw [named_iff, named_iff, named_iff]
  constructor
  · rintro ⟨y, hy, e⟩
    exact (List.mem_append.1 hy).elim (fun h => .inl ⟨y, h, e⟩) (fun h => .inr ⟨y, h, e⟩)
  · rintro (⟨y, hy, e⟩ | ⟨y, hy, e⟩)
    · exact ⟨y, List.mem_append.2 (.inl hy), e⟩
    · exact ⟨y, List.mem_append.2 (.inr hy), e⟩
theorem plus_cases {a b : List S57} (ha : Fit a) (hb : Fit b) (h1 : validP a = 0) (h2 : validP b = 0) :
    (plusP a b = ([], 7) ∨ plusP a b = ([], 23)) ∨ ∃ M, plusP a b = (M, 0) ∧ Canon (a ++ b) M ∧ validP M = 0 ∧ Fit M ∧ ∀ x, tot (a ++ b) x ≤ 9223372036854775807 := by
  have i1 := inv_app (valid_in h1 ha) (valid_in h2 hb)
  have s1 := summed_spec [a, b] (by rw [flat2]; exact i1)
  rw [flat2] at s1
  unfold plusP
  rw [if_pos ((okP_iff a b).2 ⟨h1, h2⟩)]
  rcases s1 with ⟨t1, M, hM, e1⟩ | ⟨_, e1⟩
  · by_cases h16 : M.length > 16
    · rw [e1, if_pos h16]; exact .inl (.inr rfl)
    · rw [e1, if_neg h16]
      have hpos := tot_nonneg (l := a ++ b) (fun x hx => (i1 x hx).1)
      have hv : ∀ y ∈ M, y.f1 ≤ 9223372036854775807 := fun y hy => by rw [((hM.2 y).1 hy).2]; exact t1 _
      have hV : validP M = 0 := (valid_iff M).2 ⟨by omega, hM.1, fun y hy => by
        obtain ⟨n1, n2⟩ := (hM.2 y).1 hy
        obtain ⟨z, hz, ez⟩ := (named_iff _ y.f0).1 n1
        refine ⟨?_, by rw [n2]; exact hpos _⟩
        rw [← ez]
        exact (List.mem_append.1 hz).elim (fun h => (((valid_iff a).1 h1).2.2 z h).1) (fun h => (((valid_iff b).1 h2).2.2 z h).1)⟩
      exact .inr ⟨M, rfl, hM, hV, fit_valid hV hv, t1⟩
  · rw [e1]; exact .inl (.inl rfl)
theorem minA_cons (L : List S57) (a : S57) (r : List S57) : minA L (a :: r) = minA (insS L a.f0 a.f1) r := rfl
theorem minA_spec : ∀ (a L : List S57), Rises a → Rises L → Rises (minA L a) ∧ ∀ y, y ∈ minA L a ↔ y ∈ a ∨ (y ∈ L ∧ ¬ named a y.f0 = true)
  | [], L, _, hL => ⟨hL, fun y => by simp [minA, named]⟩
  | x :: a, L, ha, hL => by
    obtain ⟨h1, h2⟩ := rises_cons.1 ha
    obtain ⟨i1, i2⟩ := minA_spec a (insS L x.f0 x.f1) h2 (rises_ins hL)
    rw [minA_cons]
    refine ⟨i1, fun y => ?_⟩
    have hx : ¬ named a x.f0 = true := by
      rw [named_iff]
      rintro ⟨z, hz, e⟩
      have := h1 z hz
      rw [e, nless_irrefl] at this
      cases this
    rw [i2, mem_ins hL, named_cons, List.mem_cons]
    constructor
    · rintro (h | ⟨h | ⟨h, h3⟩, h4⟩)
      · exact .inl (.inr h)
      · exact .inl (.inl h)
      · exact .inr ⟨h, fun h5 => h5.elim (fun e => h3 e.symm) h4⟩
    · rintro ((h | h) | ⟨h, h3⟩)
      · exact .inr ⟨.inl h, by rw [h]; exact hx⟩
      · exact .inl h
      · exact .inr ⟨.inr ⟨h, fun e => h3 (.inl e.symm)⟩, fun h4 => h3 (.inr h4)⟩
theorem minA_self {a : List S57} (h : Rises a) : minA [] a = a := by
  obtain ⟨h1, h2⟩ := minA_spec a [] h List.Pairwise.nil
  exact rises_eq h1 h (fun y => by rw [h2]; simp)
theorem minB_cons (L : List S57) (x : S57) (r : List S57) : minB L (x :: r) = if valOf L x.f0 < x.f1 then none else minB (insS L x.f0 (wrap64 (valOf L x.f0 - x.f1))) r := rfl
theorem minB_spec : ∀ (b L : List S57), Rises b → InV b → Rises L → InV L →
    ((∃ x ∈ b, valOf L x.f0 < x.f1) ∧ minB L b = none) ∨
    ((∀ x ∈ b, x.f1 ≤ valOf L x.f0) ∧ ∃ M, minB L b = some M ∧ Rises M ∧ ∀ y, y ∈ M ↔ (named L y.f0 = true ∨ named b y.f0 = true) ∧ y.f1 = valOf L y.f0 - valOf b y.f0)
  | [], L, _, _, hL, hv => by
    refine .inr ⟨fun x hx => (by simp at hx), L, rfl, hL, fun y => ?_⟩
    simp only [valOf, Int.sub_zero, named, List.any_nil, Bool.false_eq_true, or_false]
    constructor
    · intro hy
      exact ⟨(named_iff L y.f0).2 ⟨y, hy, rfl⟩, (val_mem hL hy).symm⟩
    · rintro ⟨h, h2⟩
      obtain ⟨z, hz, e⟩ := (named_iff L y.f0).1 h
      have h3 := val_mem hL hz
      rw [e, ← h2] at h3
      have : y = z := by cases y; cases z; simp only at e h3; subst e; rw [h3]
      rw [this]; exact hz
  | x :: b, L, hb, hvb, hL, hv => by
    obtain ⟨h1, h2⟩ := rises_cons.1 hb
    have hx := hvb x (by simp)
    have hvx := val_ok hL hv x.f0
    have hxb : ¬ named b x.f0 = true := by
      rw [named_iff]
      rintro ⟨z, hz, e⟩
      have := h1 z hz
      rw [e, nless_irrefl] at this
      cases this
    rw [minB_cons]
    by_cases hlt : valOf L x.f0 < x.f1
    · rw [if_pos hlt]
      exact .inl ⟨⟨x, by simp, hlt⟩, rfl⟩
    · rw [if_neg hlt]
      have hw : wrap64 (valOf L x.f0 - x.f1) = valOf L x.f0 - x.f1 := by unfold wrap64; omega
      rw [hw]
      clear hw
      have hL1 := rises_ins (x := x.f0) (v := valOf L x.f0 - x.f1) hL
      have hv1 : InV (insS L x.f0 (valOf L x.f0 - x.f1)) := fun y hy => by
        rcases (mem_ins hL).1 hy with rfl | ⟨hy, _⟩
        · exact ⟨by show 0 ≤ valOf L x.f0 - x.f1; omega, by show valOf L x.f0 - x.f1 ≤ _; omega⟩
        · exact hv y hy
      have hval : ∀ z ∈ b, valOf (insS L x.f0 (valOf L x.f0 - x.f1)) z.f0 = valOf L z.f0 := fun z hz => by
        rw [val_ins hL, if_neg]
        intro e
        exact hxb ((named_iff b x.f0).2 ⟨z, hz, e⟩)
      rcases minB_spec b _ h2 (fun y hy => hvb y (by simp [hy])) hL1 hv1 with ⟨⟨z, hz, hzl⟩, hE⟩ | ⟨hall, M, hE, hR, hmem⟩
      · refine .inl ⟨⟨z, by simp [hz], by rw [← hval z hz]; exact hzl⟩, hE⟩
      · refine .inr ⟨fun z hz => ?_, M, hE, hR, fun y => ?_⟩
        · rcases List.mem_cons.1 hz with rfl | hz
          · omega
          · rw [← hval z hz]; exact hall z hz
        · rw [hmem, val_ins hL, named_cons]
          have hn : named (insS L x.f0 (valOf L x.f0 - x.f1)) y.f0 = true ↔ named L y.f0 = true ∨ x.f0 = y.f0 := by
            rw [named_iff, named_iff]
            constructor
            · rintro ⟨z, hz, e⟩
              rcases (mem_ins hL).1 hz with rfl | ⟨hz, _⟩
              · exact .inr e
              · exact .inl ⟨z, hz, e⟩
            · rintro (⟨z, hz, e⟩ | e)
              · by_cases ez : z.f0 = x.f0
                · exact ⟨⟨x.f0, _⟩, (mem_ins hL).2 (.inl rfl), by rw [← e, ez]⟩
                · exact ⟨z, (mem_ins hL).2 (.inr ⟨hz, ez⟩), e⟩
              · exact ⟨⟨x.f0, _⟩, (mem_ins hL).2 (.inl rfl), e⟩
          have hvb2 : (if y.f0 = x.f0 then valOf L x.f0 - x.f1 else valOf L y.f0) - valOf b y.f0 = valOf L y.f0 - valOf (x :: b) y.f0 := by
            have e0 : valOf (x :: b) y.f0 = if x.f0 = y.f0 then x.f1 else valOf b y.f0 := rfl
            rw [e0]
            by_cases e : y.f0 = x.f0
            · rw [if_pos e, if_pos e.symm, e, val_none (L := b)]
              · omega
              · intro z hz e2
                exact hxb ((named_iff b x.f0).2 ⟨z, hz, e2⟩)
            · rw [if_neg e, if_neg (fun h => e h.symm)]
          rw [hn, hvb2]
          constructor
          · rintro ⟨(h | h) | h, h3⟩
            · exact ⟨.inl h, h3⟩
            · exact ⟨.inr (.inl h), h3⟩
            · exact ⟨.inr (.inr h), h3⟩
          · rintro ⟨h | h | h, h3⟩
            · exact ⟨.inl (.inl h), h3⟩
            · exact ⟨.inl (.inr h), h3⟩
            · exact ⟨.inr h, h3⟩
def minusP (a b : List S57) : List S57 × Int := if okP a b = true then minP a b else ([], 31)
theorem minus_evL {a b : List S57} (ha : Fit a) (hb : Fit b) : Ev (fun k => quant_Minus.f k a b) (minusP a b) := by
  refine Ev.bind (ok_ev ha hb) ?_
  unfold minusP
  cases h : okP a b with
  | false => exact Ev.congr (fun k => if_neg Bool.false_ne_true) (Ev.now _)
  | true =>
    obtain ⟨h1, h2⟩ := (okP_iff a b).1 h
    have hok : minOK a b = true := by
      unfold minOK
      rw [Bool.and_eq_true, Bool.and_eq_true, decide_eq_true_eq, List.all_eq_true, List.all_eq_true]
      refine ⟨⟨fun x hx => ?_, fun x hx => decide_eq_true (valid_names h2 x hx)⟩, ?_⟩
      · have hr := ha.2.2 x hx
        rw [Bool.and_eq_true, Bool.and_eq_true, decide_eq_true_eq, decide_eq_true_eq, decide_eq_true_eq]
        exact ⟨⟨valid_names h1 x hx, hr.1⟩, hr.2⟩
      · have := ha.1
        have := hb.1
        omega
    exact Ev.congr (fun k => if_pos rfl) (Ev.congr (fun k => if_pos hok) (Ev.now _))
theorem minus_cases {a b : List S57} (ha : Fit a) (hb : Fit b) (h1 : validP a = 0) (h2 : validP b = 0) :
    ((∃ x ∈ b, valOf a x.f0 < x.f1) ∧ minusP a b = ([], 1)) ∨
    ((∀ x ∈ b, x.f1 ≤ valOf a x.f0) ∧ ∃ M, minusP a b = (if M.length > 16 then ([], 23) else (M, 0)) ∧ Rises M ∧ ∀ y, y ∈ M ↔ (named a y.f0 = true ∨ named b y.f0 = true) ∧ y.f1 = valOf a y.f0 - valOf b y.f0) := by
  have r1 := ((valid_iff a).1 h1).2.1
  have r2 := ((valid_iff b).1 h2).2.1
  unfold minusP minP
  rw [if_pos ((okP_iff a b).2 ⟨h1, h2⟩), minA_self r1]
  rcases minB_spec b a r2 (valid_in h2 hb) r1 (valid_in h1 ha) with ⟨hx, hE⟩ | ⟨hall, M, hE, hR, hmem⟩
  · rw [hE]; exact .inl ⟨hx, rfl⟩
  · rw [hE]; exact .inr ⟨hall, M, rfl, hR, hmem⟩
theorem of_val (x : ByteArray) : ∀ l : List S57, (ofL x l).1 = valOf l x
  | [] => rfl
  | a :: l => by
    unfold ofL valOf
    by_cases e : a.f0 = x
    · rw [if_pos e, if_pos e]
    · rw [if_neg e, if_neg e, of_val x l]
def firstOver (l : List S57) : List S57 → ByteArray
  | [] => ⟨#[]⟩
  | a :: r => if valOf l a.f0 > a.f1 then a.f0 else firstOver l r
def withinP (l m : List S57) : ByteArray × Int := if okP l m = true then (firstOver l m, 0) else (⟨#[]⟩, 31)
theorem within_l0 (l m : List S57) (hl : l.length ≤ 1048576) (hm : m.length ≤ 1048576) : ∀ (n i : Nat), i + n = m.length → Ev (fun k => quant_Within.l0 k l m (m.length : Int) (i : Int)) (firstOver l (m.drop i), 0) := by
  intro n
  induction n with
  | zero =>
    intro i hi
    rw [List.drop_eq_nil_of_le (by omega)]
    exact Ev.step (f := fun _ => some (⟨#[]⟩, 0)) (fun k => by simp only [quant_Within.l0]; rw [if_neg (by omega)]) (Ev.now _)
  | succ n ih =>
    intro i hi
    have him : i < m.length := by omega
    have key := ih (i + 1) (by omega)
    have e : firstOver l (m.drop i) = if valOf l (m[i]).f0 > (m[i]).f1 then (m[i]).f0 else firstOver l (m.drop (i + 1)) := by rw [List.drop_eq_getElem_cons him]; rfl
    rw [e]
    refine Ev.step (f := fun k => (quant_Of.f k l (m[i]).f0).bind fun bt551 => (if bt551.1 > (m[i]).f1 then (some ((m[i]).f0, 0)) else (quant_Within.l0 k l m (m.length : Int) ((i + 1 : Nat) : Int)))) (fun k => ?_) (Ev.bind (of_ev (m[i]).f0 l (by omega)) ?_)
    · simp only [quant_Within.l0]
      rw [if_pos (by omega), if_pos (by omega), if_pos (by omega), rd_get57 m i him, wl i (by omega)]
    · rw [of_val]
      by_cases h : valOf l (m[i]).f0 > (m[i]).f1
      · rw [if_pos h]
        exact Ev.congr (fun k => if_pos h) (Ev.now _)
      · rw [if_neg h]
        exact Ev.congr (fun k => if_neg h) key
theorem within_evL {a b : List S57} (ha : Fit a) (hb : Fit b) : Ev (fun k => quant_Within.f k a b) (withinP a b) := by
  refine Ev.bind (ok_ev ha hb) ?_
  unfold withinP
  cases h : okP a b with
  | false => exact Ev.congr (fun k => if_neg Bool.false_ne_true) (Ev.now _)
  | true => exact Ev.congr (fun k => if_pos rfl) (within_l0 a b ha.1 hb.1 b.length 0 (by omega))
end Go.Proofs.YtejgbdclhlolkaaGreatDoor.Q
namespace Go.Proofs.YtejgbdclhlolkaaGreatDoor.Q
open Go.RowKit Go.Proofs.YtejgbdclhlolkaaGreatDoorW.PrintWords Go.Proofs.YtejgbdclhlolkaaGreatDoorW.PrintLast Go.Proofs.LongLaw
set_option linter.unusedVariables false
set_option linter.unusedSimpArgs false
def plc (x : ByteArray) (v : Int) : List S57 → List S57
  | [] => [⟨x, v⟩]
  | a :: r => if nless x a.f0 = true then ⟨x, v⟩ :: a :: r else a :: plc x v r
theorem placed_l0 (l : List S57) (hl : l.length ≤ 4000000) (x : ByteArray) (v : Int) : ∀ (m i : Nat) (acc : List S57) (there : Bool), i + m = l.length → acc.length ≤ 2 * i + 2 →
    Ev (fun k => bursarref03_placed.l0 k l acc there (i : Int) x v) (acc ++ if there = true then l.drop i else plc x v (l.drop i)) := by
  intro m
  induction m with
  | zero =>
    intro i acc there hi ha
    rw [List.drop_eq_nil_of_le (by omega)]
    cases there with
    | true =>
      refine Ev.step (f := fun _ => some acc) (fun k => ?_) (by rw [if_pos rfl, List.append_nil]; exact Ev.now _)
      simp only [bursarref03_placed.l0]
      rw [if_neg (by omega)]
      rfl
    | false =>
      refine Ev.step (f := fun _ => some (acc ++ [(⟨x, v⟩ : S57)])) (fun k => ?_) (by rw [if_neg Bool.false_ne_true, plc]; exact Ev.now _)
      simp only [bursarref03_placed.l0]
      rw [if_neg (by omega), if_neg Bool.false_ne_true, if_pos (by omega)]
  | succ m ih =>
    intro i acc there hi ha
    have hil : i < l.length := by omega
    have hw : wrap64 ((i : Int) + 1) = ((i + 1 : Nat) : Int) := wl i (by omega)
    have hr := rd_get57 l i hil
    have hs : (⟨(l[i]).f0, (l[i]).f1⟩ : S57) = l[i] := rfl
    rw [List.drop_eq_getElem_cons hil]
    cases there with
    | true =>
      have next := ih (i + 1) (acc ++ [l[i]]) true (by omega) (by rw [List.length_append, List.length_singleton]; omega)
      rw [if_pos rfl, List.append_assoc, List.singleton_append] at next
      rw [if_pos rfl]
      refine Ev.step (fun k => ?_) next
      simp only [bursarref03_placed.l0]
      rw [if_pos (by omega), if_pos trivial, if_pos (by omega), if_pos (by omega), hr, hs, hw]
    | false =>
      rw [if_neg Bool.false_ne_true, plc]
      cases hb : nless x (l[i]).f0 with
      | true =>
        have next := ih (i + 1) (acc ++ [(⟨x, v⟩ : S57)] ++ [l[i]]) true (by omega) (by rw [List.length_append, List.length_append, List.length_singleton, List.length_singleton]; omega)
        rw [if_pos rfl, show acc ++ [(⟨x, v⟩ : S57)] ++ [l[i]] ++ l.drop (i + 1) = acc ++ ((⟨x, v⟩ : S57) :: l[i] :: l.drop (i + 1)) by simp] at next
        rw [if_pos rfl]
        refine Ev.step (fun k => ?_) next
        simp only [bursarref03_placed.l0]
        rw [if_pos (by omega), if_neg Bool.false_ne_true, if_pos (by omega), hr, less_toList, if_pos hb, if_pos (by omega), Option.bind_some, if_pos (by rw [List.length_append, List.length_singleton]; omega), hs, hw]
      | false =>
        have next := ih (i + 1) (acc ++ [l[i]]) false (by omega) (by rw [List.length_append, List.length_singleton]; omega)
        rw [if_neg Bool.false_ne_true, List.append_assoc, List.singleton_append] at next
        rw [if_neg Bool.false_ne_true]
        refine Ev.step (fun k => ?_) next
        simp only [bursarref03_placed.l0]
        rw [if_pos (by omega), if_neg Bool.false_ne_true, if_pos (by omega), hr, less_toList, if_neg (by rw [hb]; decide), if_pos (by omega), hs, hw]
theorem placed_ev (l : List S57) (hl : l.length ≤ 4000000) (x : ByteArray) (v : Int) : Ev (fun k => bursarref03_placed.f k l x v) (plc x v l) := by
  have h := placed_l0 l hl x v l.length 0 [] false (by omega) (by simp)
  rw [if_neg Bool.false_ne_true, List.nil_append, List.drop_zero] at h
  exact h
theorem named_nil (x : ByteArray) : named [] x = false := rfl
theorem named_hd (a : S57) (l : List S57) (x : ByteArray) : named (a :: l) x = (decide (a.f0 = x) || named l x) := rfl
theorem seen_step (l : List S57) (i j : Nat) (hj : j < l.length) (x : ByteArray) (flag : Bool) (all : Bool) (h : (flag || named ((l.take i).drop j) x) = all) :
    ((if (l[j]).f0 = x then (if flag = true then true else decide ((j : Int) < (i : Int))) else flag) || named ((l.take i).drop (j + 1)) x) = all := by
  rw [← h]
  by_cases hji : j < i
  · have hlen : j < (l.take i).length := by rw [List.length_take]; omega
    have hg : (l.take i)[j] = l[j] := List.getElem_take
    rw [List.drop_eq_getElem_cons hlen, named_hd, hg]
    by_cases e : (l[j]).f0 = x
    · rw [if_pos e, decide_eq_true e, decide_eq_true (show (j : Int) < (i : Int) by omega)]
      cases flag <;> simp
    · rw [if_neg e, decide_eq_false e, Bool.false_or]
  · have h1 : (l.take i).drop j = [] := List.drop_eq_nil_of_le (by rw [List.length_take]; omega)
    have h2 : (l.take i).drop (j + 1) = [] := List.drop_eq_nil_of_le (by rw [List.length_take]; omega)
    rw [h1, h2, decide_eq_false (show ¬ (j : Int) < (i : Int) by omega)]
    split <;> cases flag <;> rfl
theorem norm_l2 (l acc : List S57) (hl : l.length ≤ 1048576) (hv : InV l) (i : Nat) (hi : i < l.length) (x : ByteArray) (hx : x = (l[i]).f0) (res : List S57 × Int)
    (hK : Ev (fun k => (bursarref03_Long_value.f k (longL (tot l x).toNat)).bind fun bt => if bt.2 = true then (if named (l.take i) x = true then bursarref03_Normal.l1 k l acc (wrap64 ((i : Int) + 1)) else (if 0 ≤ (i : Int) then (if (i : Int) < (l.length : Int) then ((bursarref03_placed.f k acc ((rd_T57 l (i : Int)).f0) bt.1).bind fun t => bursarref03_Normal.l1 k l t (wrap64 ((i : Int) + 1))) else none) else none)) else some (([] : List S57), 7)) res) :
    ∀ (m j N : Nat) (flag : Bool), j + m = l.length → N ≤ 9223372036854775808 * j → (N : Int) + tot (l.drop j) x = tot l x → (flag || named ((l.take i).drop j) x) = named (l.take i) x →
      Ev (fun k => bursarref03_Normal.l2 k l acc (i : Int) flag (j : Int) (longL N)) res := by
  intro m
  induction m with
  | zero =>
    intro j N flag hj hN ht hf
    rw [List.drop_eq_nil_of_le (by omega), tot_nil, Int.add_zero] at ht
    rw [List.drop_eq_nil_of_le (by rw [List.length_take]; omega), named_nil, Bool.or_false] at hf
    rw [← ht, Int.toNat_natCast, ← hf] at hK
    refine Ev.step (fun k => ?_) hK
    simp only [bursarref03_Normal.l2]
    rw [if_neg (by omega)]
  | succ m ih =>
    intro j N flag hj hN ht hf
    have hjl : j < l.length := by omega
    have hw : wrap64 ((j : Int) + 1) = ((j + 1 : Nat) : Int) := wl j (by omega)
    have hs := seen_step l i j hjl x flag _ hf
    have hva := hv l[j] (List.getElem_mem hjl)
    rw [List.drop_eq_getElem_cons hjl, tot_cons] at ht
    have head : ∀ k, bursarref03_Normal.l2 (k + 1) l acc (i : Int) flag (j : Int) (longL N) = if (l[j]).f0 = x then ((bursarref03_long.f k (l[j]).f1).bind fun t688 => (bursarref03_Long_plus.f k (longL N) t688).bind fun t691 => if flag = true then bursarref03_Normal.l2 k l acc (i : Int) true (wrap64 ((j : Int) + 1)) t691 else bursarref03_Normal.l2 k l acc (i : Int) (decide ((j : Int) < (i : Int))) (wrap64 ((j : Int) + 1)) t691) else bursarref03_Normal.l2 k l acc (i : Int) flag (wrap64 ((j : Int) + 1)) (longL N) := by
      intro k
      simp only [bursarref03_Normal.l2]
      rw [if_pos (by omega), if_pos (by omega), if_pos (by omega), if_pos (by omega), rd_get57 l j hjl, rd_get57 l i hi, hx]
      by_cases e : (l[j]).f0 = (l[i]).f0
      · rw [if_pos ((ba_iffL _ _).2 e), if_pos e]
      · rw [if_neg (fun h => e ((ba_iffL _ _).1 h)), if_neg e]
    refine Ev.step head ?_
    rw [hw]
    by_cases e : (l[j]).f0 = x
    · rw [if_pos e] at ht hs
      obtain ⟨v, hvn⟩ : ∃ v : Nat, (l[j]).f1 = (v : Int) := ⟨(l[j]).f1.toNat, by omega⟩
      rw [hvn] at ht hva
      have hbig : ∀ n : Nat, n ≤ 9223372036854775808 * 1048577 → (longL n).length < 1000000 := fun n hn => Nat.lt_of_le_of_lt (longL_le 30 n (by omega)) (by omega)
      have next := ih (j + 1) (N + v) (if flag = true then true else decide ((j : Int) < (i : Int))) (by omega) (by omega) (by omega) hs
      refine Ev.congr (fun k => if_pos e) ?_
      rw [hvn]
      refine Ev.bind (long_ev v (by omega)) (Ev.bind (plus_ev N v (hbig N (by omega)) (hbig v (by omega))) ?_)
      cases flag with
      | true => exact Ev.congr (fun k => if_pos rfl) next
      | false => exact Ev.congr (fun k => if_neg Bool.false_ne_true) next
    · rw [if_neg e, Int.zero_add] at ht
      rw [if_neg e] at hs
      exact Ev.congr (fun k => if_neg e) (ih (j + 1) N flag (by omega) (by omega) ht hs)
theorem len_plc (x : ByteArray) (v : Int) : ∀ l : List S57, (plc x v l).length = l.length + 1
  | [] => rfl
  | a :: r => by
    rw [plc]
    split
    · rfl
    · rw [List.length_cons, len_plc x v r, List.length_cons]
theorem tot_le : ∀ {l : List S57}, InV l → ∀ x : ByteArray, tot l x ≤ 9223372036854775807 * (l.length : Int)
  | [], _, x => by simp [tot_nil]
  | a :: r, h, x => by
    have h1 := tot_le (fun b hb => h b (List.mem_cons_of_mem _ hb)) x
    have h2 := h a List.mem_cons_self
    rw [tot_cons, List.length_cons]
    split <;> omega
def refStep (l : List S57) (i : Nat) (acc : List S57) : List S57 := if named (l.take i) (l.getD i ⟨⟨#[]⟩, 0⟩).f0 = true then acc else plc (l.getD i ⟨⟨#[]⟩, 0⟩).f0 (tot l (l.getD i ⟨⟨#[]⟩, 0⟩).f0) acc
def refAcc (l : List S57) : Nat → Nat → List S57 → List S57
  | 0, _, acc => acc
  | m + 1, i, acc => refAcc l m (i + 1) (refStep l i acc)
theorem norm_l1 (l : List S57) (hl : l.length ≤ 1048576) (hv : InV l) : ∀ (m i : Nat) (acc : List S57), i + m = l.length → acc.length ≤ i →
    Ev (fun k => bursarref03_Normal.l1 k l acc (i : Int)) (if (l.drop i).all (fun a => decide (tot l a.f0 ≤ 9223372036854775807)) = true then (if 16 < (refAcc l m i acc).length then ([], 23) else (refAcc l m i acc, 0)) else ([], 7)) := by
  intro m
  induction m with
  | zero =>
    intro i acc hi ha
    rw [List.drop_eq_nil_of_le (by omega), List.all_nil, if_pos rfl, refAcc]
    by_cases h : 16 < acc.length
    · rw [if_pos h]
      refine Ev.step (f := fun _ => some (([] : List S57), 23)) (fun k => ?_) (Ev.now _)
      simp only [bursarref03_Normal.l1]
      rw [if_neg (by omega), if_pos (by omega)]
    · rw [if_neg h]
      refine Ev.step (f := fun _ => some (acc, 0)) (fun k => ?_) (Ev.now _)
      simp only [bursarref03_Normal.l1]
      rw [if_neg (by omega), if_neg (by omega)]
  | succ m ih =>
    intro i acc hi ha
    have hil : i < l.length := by omega
    have hw : wrap64 ((i : Int) + 1) = ((i + 1 : Nat) : Int) := wl i (by omega)
    have hg : l.getD i ⟨⟨#[]⟩, 0⟩ = l[i] := by rw [List.getD_eq_getElem?_getD, List.getElem?_eq_getElem hil]; rfl
    have h0 := tot_nonneg (fun a ha => (hv a ha).1) (l[i]).f0
    have hstep : refStep l i acc = if named (l.take i) (l[i]).f0 = true then acc else plc (l[i]).f0 (tot l (l[i]).f0) acc := by unfold refStep; rw [hg]
    have hlen : (refStep l i acc).length ≤ i + 1 := by
      rw [hstep]; split
      · omega
      · rw [len_plc]; omega
    have next := ih (i + 1) (refStep l i acc) (by omega) hlen
    rw [← hw] at next
    have htot := tot_le hv (l[i]).f0
    rw [List.drop_eq_getElem_cons hil, List.all_cons, refAcc]
    obtain ⟨N, hN⟩ : ∃ N : Nat, tot l (l[i]).f0 = (N : Int) := ⟨(tot l (l[i]).f0).toNat, by omega⟩
    refine Ev.step (f := fun k => bursarref03_Normal.l2 k l acc (i : Int) false 0 []) (fun k => by simp only [bursarref03_Normal.l1]; rw [if_pos (by omega)]) ?_
    have hz : longL 0 = [] := by unfold longL; rfl
    rw [← hz]
    refine norm_l2 l acc hl hv i hil (l[i]).f0 rfl _ ?_ l.length 0 0 false (by omega) (by omega) (by simp) (by simp)
    have hval := value_ev N (Nat.lt_of_le_of_lt (longL_le 30 N (by omega)) (by omega))
    rw [hN, Int.toNat_natCast]
    refine Ev.bind hval ?_
    by_cases hb : N ≤ 9223372036854775807
    · rw [if_pos hb, decide_eq_true (show ((N : Nat) : Int) ≤ 9223372036854775807 by omega), Bool.true_and]
      refine Ev.congr (fun k => if_pos rfl) ?_
      rw [hstep, hN] at next
      rw [hstep, hN]
      by_cases hn : named (l.take i) (l[i]).f0 = true
      · rw [if_pos hn] at next ⊢
        exact Ev.congr (fun k => if_pos hn) next
      · rw [if_neg hn] at next ⊢
        refine Ev.congr (fun k => (if_neg hn).trans ((if_pos (by omega)).trans (if_pos (by omega)))) ?_
        rw [rd_get57 l i hil]
        exact Ev.bind (placed_ev acc (by omega) _ _) next
    · rw [if_neg hb, decide_eq_false (show ¬ ((N : Nat) : Int) ≤ 9223372036854775807 by omega), Bool.false_and, if_neg Bool.false_ne_true]
      exact Ev.congr (fun k => if_neg Bool.false_ne_true) (Ev.now _)
theorem plc_ins {x : ByteArray} (v : Int) : ∀ {L : List S57}, ¬ named L x = true → plc x v L = insS L x v
  | [], _ => rfl
  | a :: r, h => by
    rw [named_cons, not_or] at h
    rw [plc, insS, if_neg h.1, plc_ins v h.2]
theorem take_named (l : List S57) (i : Nat) (hi : i < l.length) (x : ByteArray) : named (l.take (i + 1)) x = true ↔ named (l.take i) x = true ∨ (l[i]).f0 = x := by
  rw [List.take_succ_eq_append_getElem hi, named_app, named_cons]
  simp [named]
theorem refAcc_canon (l : List S57) : ∀ (m i : Nat) (acc : List S57), i + m = l.length → Rises acc → (∀ y, y ∈ acc ↔ named (l.take i) y.f0 = true ∧ y.f1 = tot l y.f0) → Canon l (refAcc l m i acc)
  | 0, i, acc, hi, hr, hm => by
    rw [refAcc]
    refine ⟨hr, fun y => ?_⟩
    rw [hm, List.take_of_length_le (by omega)]
  | m + 1, i, acc, hi, hr, hm => by
    have hil : i < l.length := by omega
    have hg : l.getD i ⟨⟨#[]⟩, 0⟩ = l[i] := by rw [List.getD_eq_getElem?_getD, List.getElem?_eq_getElem hil]; rfl
    rw [refAcc]
    unfold refStep
    rw [hg]
    by_cases hn : named (l.take i) (l[i]).f0 = true
    · rw [if_pos hn]
      refine refAcc_canon l m (i + 1) acc (by omega) hr (fun y => ?_)
      rw [hm, take_named l i hil]
      constructor
      · rintro ⟨h1, h2⟩; exact ⟨.inl h1, h2⟩
      · rintro ⟨h1 | h1, h2⟩
        · exact ⟨h1, h2⟩
        · exact ⟨by rw [← h1]; exact hn, h2⟩
    · rw [if_neg hn]
      have hno : ¬ named acc (l[i]).f0 = true := fun h => by
        obtain ⟨y, hy, hyx⟩ := (named_iff acc _).1 h
        exact hn (by rw [← hyx]; exact ((hm y).1 hy).1)
      rw [plc_ins _ hno]
      refine refAcc_canon l m (i + 1) _ (by omega) (rises_ins hr) (fun y => ?_)
      rw [mem_ins hr, hm, take_named l i hil]
      constructor
      · rintro (h | ⟨⟨h1, h2⟩, h3⟩)
        · subst h; exact ⟨.inr rfl, rfl⟩
        · exact ⟨.inl h1, h2⟩
      · rintro ⟨h1 | h1, h2⟩
        · refine .inr ⟨⟨h1, h2⟩, fun e => hn (by rw [← e]; exact h1)⟩
        · left
          cases y
          simp only at h1 h2
          subst h1
          rw [h2]
theorem norm_l0 (l : List S57) (hl : l.length ≤ 1048576) (hs : ∀ a ∈ l, a.f0.size < 4611686018427387904) (R : List S57 × Int) (hK : normB l = true → Ev (fun k => bursarref03_Normal.l1 k l [] 0) R) :
    ∀ (m i : Nat), i + m = l.length → normB (l.take i) = true → Ev (fun k => bursarref03_Normal.l0 k l (i : Int)) (if normB l = true then R else ([], 31)) := by
  intro m
  induction m with
  | zero =>
    intro i hi hn
    rw [List.take_of_length_le (by omega)] at hn
    rw [if_pos hn]
    refine Ev.step (fun k => ?_) (hK hn)
    simp only [bursarref03_Normal.l0]
    rw [if_neg (by omega)]
  | succ m ih =>
    intro i hi hn
    have hil : i < l.length := by omega
    have hw : wrap64 ((i : Int) + 1) = ((i + 1 : Nat) : Int) := wl i (by omega)
    have hre := refResource_ev (l[i]).f0 (hs _ (List.getElem_mem hil))
    have head : ∀ k, bursarref03_Normal.l0 (k + 1) l (i : Int) = (bursarref03_Resource.f k (l[i]).f0).bind fun t => if t = true then (if (l[i]).f1 < 0 then some (([] : List S57), 31) else bursarref03_Normal.l0 k l (wrap64 ((i : Int) + 1))) else some (([] : List S57), 31) := by
      intro k
      simp only [bursarref03_Normal.l0]
      rw [if_pos (by omega), if_pos (by omega), rd_get57 l i hil]
    have hbad : ¬ (resP (l[i]).f0 = true ∧ 0 ≤ (l[i]).f1) → (if normB l = true then R else (([] : List S57), (31 : Int))) = ([], 31) := fun h => if_neg (fun hb => h ((normB_iff l).1 hb _ (List.getElem_mem hil)))
    refine Ev.step head (Ev.bind hre ?_)
    cases hr : resP (l[i]).f0 with
    | false =>
      rw [hbad (fun h => by rw [hr] at h; exact absurd h.1 Bool.false_ne_true)]
      exact Ev.congr (fun k => if_neg Bool.false_ne_true) (Ev.now _)
    | true =>
      refine Ev.congr (fun k => if_pos rfl) ?_
      by_cases hneg : (l[i]).f1 < 0
      · rw [hbad (fun h => by omega)]
        exact Ev.congr (fun k => if_pos hneg) (Ev.now _)
      · refine Ev.congr (fun k => if_neg hneg) ?_
        rw [hw]
        refine ih (i + 1) (by omega) ((normB_iff _).2 (fun a ha => ?_))
        rw [List.take_succ_eq_append_getElem hil] at ha
        rcases List.mem_append.1 ha with h | h
        · exact (normB_iff _).1 hn a h
        · rw [List.mem_singleton] at h; subst h; exact ⟨hr, by omega⟩
theorem refNormal_ev (l : List S57) (hl : l.length ≤ 1048576) (hs : ∀ a ∈ l, a.f0.size < 4611686018427387904) (hv : ∀ a ∈ l, a.f1 ≤ 9223372036854775807) : Ev (fun k => bursarref03_Normal.f k l) (normalP l) := by
  unfold normalP
  refine norm_l0 l hl hs _ (fun hb => ?_) l.length 0 (by omega) rfl
  have hi := inv_of hb hv
  have key := norm_l1 l hl hi l.length 0 [] (by omega) (Nat.le_refl _)
  rw [List.drop_zero] at key
  rcases summed_spec [l] (by rw [flat1]; exact hi) with ⟨h1, M, hM, he⟩ | ⟨⟨x, hx⟩, he⟩
  · rw [flat1] at h1 hM
    rw [if_pos (List.all_eq_true.2 (fun a _ => decide_eq_true (h1 a.f0))), canon_unique (refAcc_canon l l.length 0 [] (by omega) List.Pairwise.nil (fun y => by simp [named])) hM] at key
    rw [he]
    exact key
  · rw [flat1] at hx
    rw [if_neg (fun h => ?_)] at key
    · rw [he]; exact key
    · by_cases hn : named l x = true
      · obtain ⟨y, hy, hyx⟩ := (named_iff l x).1 hn
        have := of_decide_eq_true (List.all_eq_true.1 h y hy)
        rw [hyx] at this
        omega
      · have := tot_none hn
        omega
end Go.Proofs.YtejgbdclhlolkaaGreatDoor.Q
namespace Go.Proofs.YtejgbdclhlolkaaGreatDoor.Q
open Go.RowKit Go.Proofs.YtejgbdclhlolkaaGreatDoorW.PrintWords Go.Proofs.YtejgbdclhlolkaaGreatDoorW.PrintLast
set_option linter.unusedVariables false
set_option linter.unusedSimpArgs false
theorem refPlus_ev {a b : List S57} (ha : Fit a) (hb : Fit b) : Ev (fun k => bursarref03_Plus.f k a b) (plusP a b) := by
  unfold plusP
  by_cases h1 : validP a = 0
  · refine Ev.bind (refValid_ev a ha.1 ha.2.1) (Ev.congr (fun k => if_pos h1) (Ev.bind (refValid_ev b hb.1 hb.2.1) ?_))
    by_cases h2 : validP b = 0
    · rw [if_pos ((okP_iff a b).2 ⟨h1, h2⟩)]
      refine Ev.congr (fun k => if_pos h2) ?_
      have l1 := ha.1
      have l2 := hb.1
      have va := (valid_iff a).1 h1
      have vb := (valid_iff b).1 h2
      have hn : normB (a ++ b) = true := (normB_iff _).2 (fun y hy => (List.mem_append.1 hy).elim (fun h => va.2.2 y h) (fun h => vb.2.2 y h))
      have key := refNormal_ev (a ++ b) (by rw [List.length_append]; have := va.1; have := vb.1; omega) (fun y hy => (List.mem_append.1 hy).elim (ha.2.1 y) (hb.2.1 y)) (fun y hy => (List.mem_append.1 hy).elim (fun h => (ha.2.2 y h).2) (fun h => (hb.2.2 y h).2))
      have e : normalP (a ++ b) = quant_summed.f [a, b] := by
        unfold normalP quant_summed.f
        rw [if_pos hn, flat1, flat2]
      rw [e] at key
      refine Ev.congr (fun k => if_pos (by rw [List.length_nil]; omega)) ?_
      rw [List.nil_append]
      refine Ev.congr (fun k => (if_pos (by omega) : (if a.length + b.length < 5864062014805 then _ else _) = _)) ?_
      exact Ev.bind key (Ev.now _)
    · rw [if_neg (fun h => h2 ((okP_iff a b).1 h).2)]
      exact Ev.congr (fun k => if_neg h2) (Ev.now _)
  · rw [if_neg (fun h => h1 ((okP_iff a b).1 h).1)]
    exact Ev.bind (refValid_ev a ha.1 ha.2.1) (Ev.congr (fun k => if_neg h1) (Ev.now _))
theorem refWithin_l0 (l m : List S57) (hl : l.length ≤ 1048576) (hm : m.length ≤ 1048576) : ∀ (n i : Nat), i + n = m.length → Ev (fun k => bursarref03_Within.l0 k l m (i : Int)) (firstOver l (m.drop i), 0) := by
  intro n
  induction n with
  | zero =>
    intro i hi
    rw [List.drop_eq_nil_of_le (by omega)]
    exact Ev.step (f := fun _ => some (⟨#[]⟩, 0)) (fun k => by simp only [bursarref03_Within.l0]; rw [if_neg (by omega)]) (Ev.now _)
  | succ n ih =>
    intro i hi
    have him : i < m.length := by omega
    have key := ih (i + 1) (by omega)
    have e : firstOver l (m.drop i) = if valOf l (m[i]).f0 > (m[i]).f1 then (m[i]).f0 else firstOver l (m.drop (i + 1)) := by rw [List.drop_eq_getElem_cons him]; rfl
    rw [e]
    refine Ev.step (f := fun k => (bursarref03_Of.f k l (m[i]).f0).bind fun bt => (if (m[i]).f1 < bt.1 then (some ((m[i]).f0, 0)) else (bursarref03_Within.l0 k l m ((i + 1 : Nat) : Int)))) (fun k => ?_) (Ev.bind (refOf_ev (m[i]).f0 l (by omega)) ?_)
    · simp only [bursarref03_Within.l0]
      rw [if_pos (by omega), if_pos (by omega), rd_get57 m i him, wl i (by omega)]
    · rw [of_val]
      by_cases h : valOf l (m[i]).f0 > (m[i]).f1
      · rw [if_pos h]
        exact Ev.congr (fun k => if_pos h) (Ev.now _)
      · rw [if_neg h]
        exact Ev.congr (fun k => if_neg h) key
theorem refWithin_ev {a b : List S57} (ha : Fit a) (hb : Fit b) : Ev (fun k => bursarref03_Within.f k a b) (withinP a b) := by
  unfold withinP
  have bad : Ev (fun k => bursarref03_Within.j0 k a b true) ((⟨#[]⟩ : ByteArray), (31 : Int)) :=
    Ev.step (f := fun _ => some ((⟨#[]⟩ : ByteArray), (31 : Int))) (fun k => by simp only [bursarref03_Within.j0]; rw [if_pos trivial]) (Ev.now _)
  by_cases h1 : validP a = 0
  · refine Ev.bind (refValid_ev a ha.1 ha.2.1) (Ev.congr (fun k => if_pos h1) (Ev.bind (refValid_ev b hb.1 hb.2.1) ?_))
    by_cases h2 : validP b = 0
    · rw [if_pos ((okP_iff a b).2 ⟨h1, h2⟩)]
      have hf : (validP b != 0) = false := by rw [h2]; rfl
      rw [hf]
      refine Ev.step (fun k => ?_) (refWithin_l0 a b ha.1 hb.1 b.length 0 (by omega))
      simp only [bursarref03_Within.j0]
      rw [if_neg Bool.false_ne_true]
      rfl
    · rw [if_neg (fun h => h2 ((okP_iff a b).1 h).2)]
      have ht : (validP b != 0) = true := bne_iff_ne.2 h2
      rw [ht]
      exact bad
  · rw [if_neg (fun h => h1 ((okP_iff a b).1 h).1)]
    exact Ev.bind (refValid_ev a ha.1 ha.2.1) (Ev.congr (fun k => if_neg h1) bad)
end Go.Proofs.YtejgbdclhlolkaaGreatDoor.Q
namespace Go.Proofs.YtejgbdclhlolkaaGreatDoor.Q
open Go.RowKit Go.Proofs.YtejgbdclhlolkaaGreatDoorW.PrintWords Go.Proofs.YtejgbdclhlolkaaGreatDoorW.PrintLast
set_option linter.unusedVariables false
set_option linter.unusedSimpArgs false
theorem of_namedR (x : ByteArray) : ∀ l : List S57, (ofL x l).2 = named l x
  | [] => rfl
  | a :: l => by
    rw [ofL, named_hd]
    by_cases e : a.f0 = x
    · rw [if_pos e, decide_eq_true e]; rfl
    · rw [if_neg e, decide_eq_false e, Bool.false_or, of_namedR x l]
def accB (a : List S57) : List S57 → List S57 → List S57
  | [], acc => acc
  | x :: r, acc => if named a x.f0 = true then accB a r acc else accB a r (plc x.f0 0 acc)
theorem minus_l1R (a b : List S57) (ha : a.length ≤ 1048576) (hb : b.length ≤ 1048576) : ∀ (m i : Nat) (acc : List S57), i + m = b.length → acc.length ≤ 1048576 + i →
    Ev (fun k => bursarref03_Minus.l1 k a b acc (i : Int)) (if (b.drop i).all (fun x => named a x.f0 || decide (x.f1 ≤ 0)) = true then (if 16 < (accB a (b.drop i) acc).length then ([], 23) else (accB a (b.drop i) acc, 0)) else ([], 1)) := by
  intro m
  induction m with
  | zero =>
    intro i acc hi hl
    rw [List.drop_eq_nil_of_le (by omega), List.all_nil, if_pos rfl, accB]
    by_cases h : 16 < acc.length
    · rw [if_pos h]
      exact Ev.step (f := fun _ => some (([] : List S57), 23)) (fun k => by simp only [bursarref03_Minus.l1]; rw [if_neg (by omega), if_pos (by omega)]) (Ev.now _)
    · rw [if_neg h]
      exact Ev.step (f := fun _ => some (acc, 0)) (fun k => by simp only [bursarref03_Minus.l1]; rw [if_neg (by omega), if_neg (by omega)]) (Ev.now _)
  | succ m ih =>
    intro i acc hi hl
    have hil : i < b.length := by omega
    have hw : wrap64 ((i : Int) + 1) = ((i + 1 : Nat) : Int) := wl i (by omega)
    rw [List.drop_eq_getElem_cons hil, List.all_cons, accB]
    have head : ∀ k, bursarref03_Minus.l1 (k + 1) a b acc (i : Int) = (bursarref03_Of.f k a (b[i]).f0).bind fun bt => if bt.2 = true then bursarref03_Minus.l1 k a b acc ((i + 1 : Nat) : Int) else (if (b[i]).f1 > 0 then some (([] : List S57), 1) else (bursarref03_placed.f k acc (b[i]).f0 0).bind fun t => bursarref03_Minus.l1 k a b t ((i + 1 : Nat) : Int)) := by
      intro k
      simp only [bursarref03_Minus.l1]
      rw [if_pos (by omega), if_pos (by omega), rd_get57 b i hil, hw]
    refine Ev.step head (Ev.bind (refOf_ev (b[i]).f0 a (by omega)) ?_)
    rw [of_namedR]
    cases hn : named a (b[i]).f0 with
    | true =>
      rw [Bool.true_or, Bool.true_and, if_pos rfl]
      exact Ev.congr (fun k => if_pos rfl) (ih (i + 1) acc (by omega) (by omega))
    | false =>
      refine Ev.congr (fun k => if_neg Bool.false_ne_true) ?_
      rw [Bool.false_or, if_neg Bool.false_ne_true]
      by_cases hp : (b[i]).f1 > 0
      · rw [decide_eq_false (by omega), Bool.false_and, if_neg Bool.false_ne_true]
        exact Ev.congr (fun k => if_pos hp) (Ev.now _)
      · rw [decide_eq_true (by omega), Bool.true_and]
        exact Ev.congr (fun k => if_neg hp) (Ev.bind (placed_ev acc (by omega) _ _) (ih (i + 1) _ (by omega) (by rw [len_plc]; omega)))
def offB (b : List S57) (y : S57) : S57 := ⟨y.f0, y.f1 - valOf b y.f0⟩
theorem minus_l0R (a b : List S57) (ha : a.length ≤ 1048576) (hb : b.length ≤ 1048576) (hia : InV a) (hvb : ∀ x, 0 ≤ valOf b x) (R : List S57 × Int)
    (hK : Ev (fun k => bursarref03_Minus.l1 k a b (a.map (offB b)) 0) R) : ∀ (m i : Nat), i + m = a.length →
    Ev (fun k => bursarref03_Minus.l0 k a b ((a.take i).map (offB b)) (i : Int)) (if (a.drop i).all (fun y => decide (valOf b y.f0 ≤ y.f1)) = true then R else ([], 1)) := by
  intro m
  induction m with
  | zero =>
    intro i hi
    rw [List.drop_eq_nil_of_le (by omega), List.all_nil, if_pos rfl, List.take_of_length_le (by omega)]
    exact Ev.step (fun k => by simp only [bursarref03_Minus.l0]; rw [if_neg (by omega)]) hK
  | succ m ih =>
    intro i hi
    have hil : i < a.length := by omega
    have hw : wrap64 ((i : Int) + 1) = ((i + 1 : Nat) : Int) := wl i (by omega)
    rw [List.drop_eq_getElem_cons hil, List.all_cons]
    have hv := hia a[i] (List.getElem_mem hil)
    have h0 := hvb (a[i]).f0
    have next := ih (i + 1) (by omega)
    rw [List.take_succ_eq_append_getElem hil, List.map_append] at next
    have hlen : ((a.take i).map (offB b)).length ≤ 1048576 := by rw [List.length_map, List.length_take]; omega
    have head : ∀ k, bursarref03_Minus.l0 (k + 1) a b ((a.take i).map (offB b)) (i : Int) = (bursarref03_Of.f k b (a[i]).f0).bind fun bt => if (a[i]).f1 < bt.1 then some (([] : List S57), 1) else (bursarref03_Minus.l0 k a b ((a.take i).map (offB b) ++ [(⟨(a[i]).f0, wrap64 ((a[i]).f1 - bt.1)⟩ : S57)]) ((i + 1 : Nat) : Int)) := by
      intro k
      simp only [bursarref03_Minus.l0]
      rw [if_pos (by omega), if_pos (by omega), rd_get57 a i hil, hw]
      simp only [if_pos (show ((a.take i).map (offB b)).length < 5864062014805 by omega)]
    refine Ev.step head (Ev.bind (refOf_ev (a[i]).f0 b (by omega)) ?_)
    rw [of_val]
    by_cases h : (a[i]).f1 < valOf b (a[i]).f0
    · rw [decide_eq_false (by omega), Bool.false_and, if_neg Bool.false_ne_true]
      exact Ev.congr (fun k => if_pos h) (Ev.now _)
    · rw [decide_eq_true (by omega), Bool.true_and]
      refine Ev.congr (fun k => if_neg h) ?_
      have hww : wrap64 ((a[i]).f1 - valOf b (a[i]).f0) = (a[i]).f1 - valOf b (a[i]).f0 := by unfold wrap64; omega
      rw [hww]
      exact next
theorem accB_spec (a : List S57) : ∀ (r acc : List S57), Rises r → Rises acc → (∀ x ∈ r, ¬ named a x.f0 = true → ¬ named acc x.f0 = true) →
    Rises (accB a r acc) ∧ ∀ y, y ∈ accB a r acc ↔ y ∈ acc ∨ (y.f1 = 0 ∧ named r y.f0 = true ∧ ¬ named a y.f0 = true)
  | [], acc, _, ha, _ => ⟨ha, fun y => by simp [accB, named]⟩
  | x :: r, acc, hr, ha, hno => by
    obtain ⟨hx, hr'⟩ := rises_cons.1 hr
    rw [accB]
    by_cases hn : named a x.f0 = true
    · rw [if_pos hn]
      obtain ⟨h1, h2⟩ := accB_spec a r acc hr' ha (fun z hz => hno z (List.mem_cons_of_mem _ hz))
      refine ⟨h1, fun y => ?_⟩
      rw [h2, named_cons]
      constructor
      · rintro (h | ⟨e, h, h'⟩)
        · exact .inl h
        · exact .inr ⟨e, .inr h, h'⟩
      · rintro (h | ⟨e, h | h, h'⟩)
        · exact .inl h
        · exact absurd (by rw [← h]; exact hn) h'
        · exact .inr ⟨e, h, h'⟩
    · rw [if_neg hn, plc_ins _ (hno x List.mem_cons_self hn)]
      obtain ⟨h1, h2⟩ := accB_spec a r (insS acc x.f0 0) hr' (rises_ins ha) (fun z hz hza hzn => by
        obtain ⟨w, hw, hwz⟩ := (named_iff _ _).1 hzn
        rcases (mem_ins ha).1 hw with e | ⟨hw2, _⟩
        · have hlt := hx z hz
          rw [← hwz, e, nless_irrefl] at hlt
          exact Bool.false_ne_true hlt
        · exact hno z (List.mem_cons_of_mem _ hz) hza ((named_iff _ _).2 ⟨w, hw2, hwz⟩))
      refine ⟨h1, fun y => ?_⟩
      rw [h2, mem_ins ha, named_cons]
      constructor
      · rintro ((e | ⟨h, _⟩) | ⟨e, h, h'⟩)
        · subst e; exact .inr ⟨rfl, .inl rfl, hn⟩
        · exact .inl h
        · exact .inr ⟨e, .inr h, h'⟩
      · rintro (h | ⟨e, h | h, h'⟩)
        · exact .inl (.inr ⟨h, fun e => hno x List.mem_cons_self hn ((named_iff _ _).2 ⟨y, h, e⟩)⟩)
        · left; left; cases y; simp only at e h; rw [e, h]
        · exact .inr ⟨e, h, h'⟩
theorem minusBad (a b : List S57) : Ev (fun k => bursarref03_Minus.j0 k a b true) (([] : List S57), (31 : Int)) :=
  Ev.step (f := fun _ => some (([] : List S57), (31 : Int))) (fun k => by simp only [bursarref03_Minus.j0]; rw [if_pos trivial]) (Ev.now _)
theorem refMinus_red {a b : List S57} (ha : Fit a) (hb : Fit b) (hgood : validP a = 0 → validP b = 0 → Ev (fun k => bursarref03_Minus.l0 k a b [] 0) (minusP a b)) : Ev (fun k => bursarref03_Minus.f k a b) (minusP a b) := by
  by_cases h1 : validP a = 0
  · refine Ev.bind (refValid_ev a ha.1 ha.2.1) (Ev.congr (fun k => if_pos h1) (Ev.bind (refValid_ev b hb.1 hb.2.1) ?_))
    by_cases h2 : validP b = 0
    · have hf : (validP b != 0) = false := by rw [h2]; rfl
      rw [hf]
      refine Ev.step (fun k => ?_) (hgood h1 h2)
      simp only [bursarref03_Minus.j0]
      rw [if_neg Bool.false_ne_true]
    · have ht : (validP b != 0) = true := bne_iff_ne.2 h2
      rw [ht]
      unfold minusP
      rw [if_neg (fun h => h2 ((okP_iff a b).1 h).2)]
      exact minusBad a b
  · unfold minusP
    rw [if_neg (fun h => h1 ((okP_iff a b).1 h).1)]
    exact Ev.bind (refValid_ev a ha.1 ha.2.1) (Ev.congr (fun k => if_neg h1) (minusBad a b))
theorem refMinus_ev {a b : List S57} (ha : Fit a) (hb : Fit b) : Ev (fun k => bursarref03_Minus.f k a b) (minusP a b) := by
  refine refMinus_red ha hb (fun h1 h2 => ?_)
  have r1 := ((valid_iff a).1 h1).2.1
  have r2 := ((valid_iff b).1 h2).2.1
  have ia := valid_in h1 ha
  have ib := valid_in h2 hb
  have hvb : ∀ x, 0 ≤ valOf b x := fun x => (val_ok r2 ib x).1
  have l1 := minus_l1R a b ha.1 hb.1 b.length 0 (a.map (offB b)) (by omega) (by have := ha.1; rw [List.length_map]; omega)
  rw [List.drop_zero] at l1
  have l0 := minus_l0R a b ha.1 hb.1 ia hvb _ l1 a.length 0 (by omega)
  rw [List.drop_zero] at l0
  rcases minus_cases ha hb h1 h2 with ⟨⟨x, hx, hlt⟩, he⟩ | ⟨hall, M, he, hR, hmem⟩
  · rw [he]
    by_cases hn : named a x.f0 = true
    · obtain ⟨y, hy, hyx⟩ := (named_iff _ _).1 hn
      rw [if_neg (fun h => by
        have := of_decide_eq_true (List.all_eq_true.1 h y hy)
        rw [hyx, val_mem r2 hx] at this
        rw [← hyx, val_mem r1 hy] at hlt
        omega)] at l0
      exact l0
    · have hz : valOf a x.f0 = 0 := val_none (fun y hy e => hn ((named_iff _ _).2 ⟨y, hy, e⟩))
      rw [if_neg (c := (b.all fun x => named a x.f0 || decide (x.f1 ≤ 0)) = true) (fun h => by
        have := List.all_eq_true.1 h x hx
        rw [Bool.or_eq_true] at this
        rcases this with h | h
        · exact hn h
        · have := of_decide_eq_true h; omega)] at l0
      split at l0 <;> exact l0
  · rw [he]
    have hA : (a.all fun y => decide (valOf b y.f0 ≤ y.f1)) = true := List.all_eq_true.2 (fun y hy => decide_eq_true (by
      have hy0 := (ia y hy).1
      by_cases hn : named b y.f0 = true
      · obtain ⟨x, hx, hxy⟩ := (named_iff _ _).1 hn
        have := hall x hx
        rw [hxy, val_mem r1 hy] at this
        rw [← hxy, val_mem r2 hx]; exact this
      · rw [val_none (fun z hz e => hn ((named_iff _ _).2 ⟨z, hz, e⟩))]; exact hy0))
    have hB : (b.all fun x => named a x.f0 || decide (x.f1 ≤ 0)) = true := List.all_eq_true.2 (fun x hx => by
      by_cases hn : named a x.f0 = true
      · rw [hn]; rfl
      · have := hall x hx
        rw [val_none (fun z hz e => hn ((named_iff _ _).2 ⟨z, hz, e⟩))] at this
        rw [decide_eq_true this, Bool.or_true])
    rw [if_pos hA, if_pos hB] at l0
    have hoff : ∀ y, y ∈ a.map (offB b) ↔ named a y.f0 = true ∧ y.f1 = valOf a y.f0 - valOf b y.f0 := fun y => by
      rw [List.mem_map]
      constructor
      · rintro ⟨z, hz, rfl⟩
        exact ⟨(named_iff _ _).2 ⟨z, hz, rfl⟩, by show z.f1 - valOf b z.f0 = valOf a z.f0 - valOf b z.f0; rw [val_mem r1 hz]⟩
      · rintro ⟨hn, hv⟩
        obtain ⟨z, hz, hzy⟩ := (named_iff _ _).1 hn
        refine ⟨z, hz, ?_⟩
        cases y
        simp only at hzy hv
        subst hzy
        rw [hv, val_mem r1 hz]; rfl
    have hno : ∀ x ∈ b, ¬ named a x.f0 = true → ¬ named (a.map (offB b)) x.f0 = true := fun x _ hn h => by
      obtain ⟨y, hy, hyx⟩ := (named_iff _ _).1 h
      exact hn (by rw [← hyx]; exact ((hoff y).1 hy).1)
    obtain ⟨g1, g2⟩ := accB_spec a b (a.map (offB b)) r2 (List.pairwise_map.2 r1) hno
    have e : accB a b (a.map (offB b)) = M := rises_eq g1 hR (fun y => by
      rw [g2, hoff, hmem]
      by_cases hn : named a y.f0 = true
      · simp [hn]
      · have hz : valOf a y.f0 = 0 := val_none (fun z hz e => hn ((named_iff _ _).2 ⟨z, hz, e⟩))
        constructor
        · rintro (⟨h, _⟩ | ⟨h3, h4, _⟩)
          · exact absurd h hn
          · obtain ⟨x, hx, hxy⟩ := (named_iff _ _).1 h4
            have q1 := hall x hx
            have q2 := (ib x hx).1
            have q3 := val_mem r2 hx
            rw [hxy] at q1 q3
            exact ⟨.inr h4, by omega⟩
        · rintro ⟨h | h4, h3⟩
          · exact absurd h hn
          · obtain ⟨x, hx, hxy⟩ := (named_iff _ _).1 h4
            have q1 := hall x hx
            have q2 := (ib x hx).1
            have q3 := val_mem r2 hx
            rw [hxy] at q1 q3
            exact .inr ⟨by omega, h4, hn⟩)
    rw [e] at l0
    exact l0
end Go.Proofs.YtejgbdclhlolkaaGreatDoor.Q
namespace Go.Proofs.YtejgbdclhlolkaaGreatDoor.Q
open Go.RowKit Go.Proofs.YtejgbdclhlolkaaGreatDoorW.PrintWords Go.Proofs.YtejgbdclhlolkaaGreatDoorW.PrintLast Go.ChangeShapes
set_option linter.unusedVariables false
set_option linter.unusedSimpArgs false
section
variable {H : Type} (enc : TypeId × Value → H) (P : Program) (w : World) (base : Nat) (spare : Nat → Bool) (held : Bool)
def Opens (t : TypeId) {α : Type} (d : Kd α) (Rel : DataW H → α → Prop) : Prop :=
  ∀ (fuel : Nat) (cs : List Value) (x : DataW H × List MemPlace), DataW.trod enc P w base spare held fuel t cs = some x → ∃ a, d.K w a cs ∧ Rel x.1 a
def OpensFs {α : Type} (off : Nat) (fs : List Field) (d : Kd α) (Rel : List (DataW H) → α → Prop) : Prop :=
  ∀ (n : Nat) (cs : List Value) (xs : List (DataW H × List MemPlace)), xs.length = fs.length → cs.length = off + d.sz →
    (∀ (i : Nat) (f : Field), fs[i]? = some f → DataW.trod enc P w base spare held n f.type ((cs.drop f.offset).take (P.cellsOf f.type)) = xs[i]?) → ∃ a, d.K w a (cs.drop off) ∧ Rel (xs.map (·.1)) a
variable {enc : TypeId × Value → H} {P : Program} {w : World} {base : Nat} {spare : Nat → Bool} {held : Bool}
theorem opens_string {t : TypeId} (ht : P.underlying t = some .string) : Opens enc P w base spare held t Kd.string (fun x (s : ByteArray) => x = .lit (.string s.data.toList) ∧ s.size ≤ maxLen) := by
  intro fuel cs x h
  obtain ⟨s, rfl, rfl, hs⟩ := DataW.trod_string ht h
  exact ⟨s, rfl, rfl, hs⟩
theorem opens_int {t : TypeId} {k : IntKind} (ht : P.underlying t = some (.int k)) : Opens enc P w base spare held t (Kd.int k) (fun x (n : Int) => x = .lit (.int k n) ∧ (Lit.int k n).wf = true) := by
  intro fuel cs x h
  obtain ⟨s, rfl, rfl, hs⟩ := DataW.trod_int ht h
  exact ⟨s, rfl, rfl, hs⟩
theorem list_of {α : Type} {p : Nat → α → Prop} : ∀ n : Nat, (∀ i, i < n → ∃ x, p i x) → ∃ l : List α, l.length = n ∧ ∀ i x, l[i]? = some x → p i x
  | 0, _ => ⟨[], rfl, fun i x h => by simp at h⟩
  | n + 1, h => by
    obtain ⟨l, hl, hp⟩ := list_of n (fun i hi => h i (by omega))
    obtain ⟨x, hx⟩ := h n (by omega)
    refine ⟨l ++ [x], by simp [hl], fun i y hy => ?_⟩
    rcases Nat.lt_trichotomy i n with h1 | h1 | h1
    · rw [List.getElem?_append_left (by omega)] at hy; exact hp i y hy
    · subst h1
      rw [List.getElem?_append_right (by omega), hl, Nat.sub_self] at hy
      simp at hy
      exact hy ▸ hx
    · rw [List.getElem?_eq_none (by simp; omega)] at hy; cases hy
def RowD {H : Type} {α : Type} (Rel : DataW H → α → Prop) (x : DataW H) (l : List α) : Prop :=
  (x = .nil ∧ l = []) ∨ ∃ es r, x = .slice es r ∧ es.length = l.length ∧ ∀ (i : Nat) e a, es[i]? = some e → l[i]? = some a → Rel e a
theorem opens_slice {t e : TypeId} {α : Type} {d : Kd α} {Rel : DataW H → α → Prop} (e' : Nat) (ht : P.underlying t = some (.slice e)) (hc : P.cellsOf e = d.sz) (h : Opens enc P w base spare held e d Rel) :
    Opens enc P w base spare held t (Kd.slice e' d) (fun x l => RowD Rel x l ∧ l.length ≤ maxLen) := by
  intro fuel cs x hx
  have h63 : maxLen ≤ 9223372036854775807 := by decide
  rcases Go.Deep.open_slice ht hx with ⟨rfl, rfl⟩ | ⟨a, len, cap, m, n, D, Pl, rfl, hb, hl, hm, hmm, rfl, hi⟩
  · exact ⟨[], ⟨none, 0, rfl, Nat.le_refl _, rfl, Nat.zero_le _, fun h => absurd h (Nat.lt_irrefl 0)⟩, .inl ⟨rfl, rfl⟩, Nat.zero_le _⟩
  · have hlm : len ≤ m := by rw [hmm]; split <;> omega
    obtain ⟨l, hll, hp⟩ := list_of (α := α) (p := fun i y => ∃ cs', w.cells? base (a.add (i * P.cellsOf e)) (P.cellsOf e) = some cs' ∧ d.K w y cs' ∧ Rel (D i) y) len (fun i h1 => by
      obtain ⟨cs', h2, h3⟩ := hi i (by omega)
      obtain ⟨y, hy, hr⟩ := h n cs' _ h3
      exact ⟨y, cs', h2, hy, hr⟩)
    subst hll
    refine ⟨l, ⟨some a, cap, rfl, hl, rfl, by omega, fun _ => ⟨a, rfl, fun j p hj => ?_⟩⟩, .inr ⟨_, _, rfl, by simp, fun i e' a' h1 h2 => ?_⟩, by omega⟩
    · obtain ⟨cs', h2, h3, _⟩ := hp j p hj
      obtain ⟨_, h4, h5⟩ := World.cells?_some h2
      refine ⟨cs', by rw [h4, hc], h3, fun i u hu => ?_⟩
      have hil : i < cs'.length := (List.getElem?_eq_some_iff.1 hu).1
      have := h5 i (by omega)
      rw [hu, Go.Deep.add_add, hc] at this
      exact this
    · obtain ⟨_, _, _, h4⟩ := hp i a' h2
      have hil : i < l.length := (List.getElem?_eq_some_iff.1 h2).1
      simp [hil] at h1
      subst h1
      exact h4
theorem opens_one {f : Field} {off : Nat} {α : Type} {d : Kd α} {Rel : DataW H → α → Prop} (hf : f.offset = off) (hc : P.cellsOf f.type = d.sz) (h : Opens enc P w base spare held f.type d Rel) :
    OpensFs enc P w base spare held off [f] d (fun l a => ∃ y, l = [y] ∧ Rel y a) := by
  intro n cs xs hx hcs hi
  obtain ⟨x, rfl⟩ := List.length_eq_one_iff.1 (show xs.length = 1 from hx)
  have h0 := hi 0 f rfl
  rw [hf, hc, List.take_of_length_le (by rw [List.length_drop]; omega)] at h0
  obtain ⟨a, ha, hr⟩ := h n _ x h0
  exact ⟨a, ha, _, rfl, hr⟩
theorem opens_cons {f : Field} {fs : List Field} {off : Nat} {α β : Type} {d0 : Kd α} {d : Kd β} {R0 : DataW H → α → Prop} {R : List (DataW H) → β → Prop} (hf : f.offset = off) (hc : P.cellsOf f.type = d0.sz) (h0 : Opens enc P w base spare held f.type d0 R0)
    (h : OpensFs enc P w base spare held (off + d0.sz) fs d R) : OpensFs enc P w base spare held off (f :: fs) (Kd.pair d0 d) (fun l a => ∃ y r, l = y :: r ∧ R0 y a.1 ∧ R r a.2) := by
  intro n cs xs hx hcs hi
  cases xs with
  | nil => simp at hx
  | cons x xs =>
    have hsz : (Kd.pair d0 d).sz = d0.sz + d.sz := rfl
    rw [hsz] at hcs
    have h1 := hi 0 f rfl
    rw [hf, hc] at h1
    obtain ⟨a, ha, hr⟩ := h0 n _ x h1
    obtain ⟨b, hb, hs⟩ := h n cs xs (by simpa using hx) (by omega) (fun i g hg => hi (i + 1) g hg)
    refine ⟨(a, b), ⟨_, _, ?_, ha, hb⟩, _, _, rfl, hr, hs⟩
    rw [← List.drop_drop]
    exact (List.take_append_drop _ _).symm
theorem opens_struct {t : TypeId} {fs : Array Field} {α β : Type} {d : Kd α} {R : List (DataW H) → α → Prop} (f : β → α) (g : α → β) (hg : ∀ a, f (g a) = a) (ht : P.underlying t = some (.struct fs)) (hc : P.cellsOf t = d.sz) (h : OpensFs enc P w base spare held 0 fs.toList d R) :
    Opens enc P w base spare held t (Kd.iso d f) (fun x b => ∃ l, x = .agg l ∧ R l (f b)) := by
  intro fuel cs x hx
  obtain ⟨xs, n, _, rfl, hl, hxl, hi⟩ := DataW.trod_struct ht hx
  obtain ⟨a, ha, hr⟩ := h n cs xs (by simpa using hxl) (by rw [hl, hc, Nat.zero_add]) (fun i g hg' => hi i g (by rw [← Array.getElem?_toList]; exact hg'))
  rw [List.drop_zero] at ha
  refine ⟨g a, ?_, _, rfl, ?_⟩
  · show d.K w (f (g a)) cs
    rw [hg]; exact ha
  · rw [hg]; exact hr
theorem row_open {t e : TypeId} {α : Type} {d : Kd α} {Rel : DataW H → α → Prop} {A : Option Addr} {len cap : Nat} {x : DataW H} {ps : List MemPlace} (ht : P.underlying t = some (.slice e)) (hc : P.cellsOf e = d.sz)
    (h : Opens enc P w base spare held e d Rel) (hx : ∃ m, DataW.trod enc P w base spare held m t [.slice A len cap] = some (x, ps)) :
    ∃ l : List α, len = l.length ∧ d.C w A l.length l ∧ l.length ≤ cap ∧ RowD Rel x l ∧ l.length ≤ maxLen := by
  obtain ⟨m, hm⟩ := hx
  obtain ⟨l, ⟨A', c', he, hlc, hC⟩, hr, hml⟩ := opens_slice 0 ht hc h m _ _ hm
  injection he with he _
  injection he with h1 h2 h3
  subst h1 h2 h3
  exact ⟨l, rfl, hC, hlc, hr, hml⟩
end
theorem bulk_pos {H : Type} (d : DataW H) : 1 ≤ Rows.uptoBulk d := by
  cases d with
  | lit l => cases l <;> simp only [Rows.uptoBulk] <;> omega
  | nil => simp only [Rows.uptoBulk]; omega
  | ptr d => simp only [Rows.uptoBulk]; omega
  | slice a b => simp only [Rows.uptoBulk]; omega
  | agg p => simp only [Rows.uptoBulk]; omega
  | iface a d => simp only [Rows.uptoBulk]; omega
  | map e => simp only [Rows.uptoBulk]; omega
  | _ => simp only [Rows.uptoBulk]; omega
theorem bulk_all {H : Type} : ∀ l : List (DataW H), l.length ≤ Rows.uptoBulkAll l ∧ ∀ (i : Nat) x, l[i]? = some x → Rows.uptoBulk x ≤ Rows.uptoBulkAll l
  | [] => ⟨Nat.zero_le _, fun i x h => by simp at h⟩
  | d :: l => by
    obtain ⟨h1, h2⟩ := bulk_all l
    have hp := bulk_pos d
    simp only [Rows.uptoBulkAll, List.length_cons]
    refine ⟨by omega, fun i x h => ?_⟩
    cases i with
    | zero => simp at h; subst h; omega
    | succ i => have := h2 i x (by simpa using h); omega
theorem bulk_row {H : Type} {α : Type} {Rel : DataW H → α → Prop} {x : DataW H} {l : List α} (h : RowD Rel x l) : l.length ≤ Rows.uptoBulk x ∧ ∀ (i : Nat) a, l[i]? = some a → ∃ e, Rel e a ∧ Rows.uptoBulk e ≤ Rows.uptoBulk x := by
  rcases h with ⟨rfl, rfl⟩ | ⟨es, r, rfl, hl, he⟩
  · exact ⟨Nat.zero_le _, fun i a h => by simp at h⟩
  · obtain ⟨h1, h2⟩ := bulk_all es
    simp only [Rows.uptoBulk]
    refine ⟨by omega, fun i a ha => ?_⟩
    have hil : i < es.length := by rw [hl]; exact (List.getElem?_eq_some_iff.1 ha).1
    have hes : es[i]? = some es[i] := List.getElem?_eq_getElem hil
    exact ⟨es[i], he i _ _ hes ha, by have := h2 i _ hes; omega⟩
theorem bulk_agg {H : Type} {l : List (DataW H)} (i : Nat) (x : DataW H) (h : l[i]? = some x) : Rows.uptoBulk x ≤ Rows.uptoBulk (.agg l) := by
  have := (bulk_all l).2 i x h
  simp only [Rows.uptoBulk]
  omega
theorem bulk_str {H : Type} (s : ByteArray) : s.size ≤ Rows.uptoBulk (.lit (.string s.data.toList) : DataW H) := by
  simp only [Rows.uptoBulk, Array.length_toList]
  have : s.data.size = s.size := rfl
  omega
end Go.Proofs.YtejgbdclhlolkaaGreatDoor.Q
namespace Go.Proofs.YtejgbdclhlolkaaGreatDoor.Q
open Go.RowKit Go.Proofs.YtejgbdclhlolkaaGreatDoorW.PrintWords Go.Proofs.YtejgbdclhlolkaaGreatDoorW.PrintLast Go.ChangeShapes
set_option linter.unusedVariables false
set_option linter.unusedSimpArgs false
def StrD {H : Type} (x : DataW H) (s : ByteArray) : Prop := x = .lit (.string s.data.toList) ∧ s.size ≤ maxLen
def AmD {H : Type} (x : DataW H) (b : S57) : Prop := ∃ l, x = .agg l ∧ ∃ y r, l = y :: r ∧ StrD y b.f0 ∧ ∃ y2, r = [y2] ∧ (y2 = .lit (.int .i64 b.f1) ∧ (Lit.int .i64 b.f1).wf = true)
section
variable {H : Type} {enc : TypeId × Value → H} {w : World} {base : Nat} {spare : Nat → Bool} {held : Bool}
theorem opens57 : Opens enc Tryz.prog w base spare held 57 k57 AmD :=
  opens_struct (fun x : S57 => (x.f0, x.f1)) (fun a => ⟨a.1, a.2⟩) (fun _ => rfl) Tryz.underlying57 (by kernel_rfl)
    (opens_cons rfl (by kernel_rfl) (opens_string Tryz.underlying9) (opens_one rfl (by kernel_rfl) (opens_int Tryz.underlying2)))
end
def Small57 (l : List S57) : Prop := l.length ≤ 1048576 ∧ ∀ x ∈ l, x.f0.size ≤ 1048576 ∧ -9223372036854775808 ≤ x.f1 ∧ x.f1 ≤ 9223372036854775807
theorem small57 {H : Type} {d : DataW H} {l : List S57} (h : RowD AmD d l) (hb : Rows.uptoBulk d ≤ 1048576) : Small57 l := by
  obtain ⟨h1, h2⟩ := bulk_row h
  refine ⟨by omega, fun t ht => ?_⟩
  obtain ⟨i, hi, rfl⟩ := List.getElem_of_mem ht
  obtain ⟨e, ⟨l', rfl, y, r, rfl, ⟨rfl, _⟩, y2, rfl, ⟨rfl, hw⟩⟩, he⟩ := h2 i _ (List.getElem?_eq_getElem hi)
  have b1 := bulk_agg (l := [.lit (.string l[i].f0.data.toList), .lit (.int .i64 l[i].f1)]) 0 (.lit (.string l[i].f0.data.toList) : DataW H) rfl
  have b2 := bulk_str (H := H) l[i].f0
  simp only [Lit.wf, IntKind.min, IntKind.max, IntKind.signed, IntKind.bits, Bool.and_eq_true, decide_eq_true_eq, if_true] at hw
  exact ⟨by omega, by omega, by omega⟩
end Go.Proofs.YtejgbdclhlolkaaGreatDoor.Q
namespace Go.Proofs.YtejgbdclhlolkaaGreatDoor.Pure
open Go.RowKit Go.Proofs.YtejgbdclhlolkaaGreatDoorW.PrintWords Go.Proofs.YtejgbdclhlolkaaGreatDoorW.PrintLast Go.Proofs.YtejgbdclhlolkaaGreatDoor.Q
set_option linter.unusedVariables false
set_option linter.unusedSimpArgs false
theorem fit_smallL {l : List S57} (c : Small57 l) : Fit l := ⟨c.1, fun a ha => by have := (c.2 a ha).1; omega, fun a ha => (c.2 a ha).2⟩
theorem lenL (r : List S57) : (r.length : Int) ≤ ((r ++ [markS]).length : Int) := by rw [List.length_append]; omega
theorem lists_j3 {a b : List S57} (ha : Fit a) (hb : Fit b) : Ev (fun k => bursarlaw03_QuantLists.j3 k a b (a ++ [markS]) (b ++ [markS]) false) true := by
  have h1 := ha.1
  have h2 := hb.1
  refine Ev.step (fun k => by simp only [bursarlaw03_QuantLists.j3]; rw [if_neg Bool.false_ne_true, if_pos (by omega), if_pos (lenL a), if_pos (by omega), if_pos (lenL b), behind_take, behind_take]) (Ev.bind (within_evL ha hb) (Ev.bind (refWithin_ev ha hb) ?_))
  refine Ev.congr (fun k => (if_pos rfl).trans (if_pos rfl)) (Ev.bind (untouched_ev a (by omega)) (Ev.congr (fun k => if_pos rfl) (Ev.bind (untouched_ev b (by omega)) (Ev.now _))))
theorem len_plus {a b : List S57} (ha : Fit a) (hb : Fit b) : (plusP a b).1.length ≤ 1048576 := by
  by_cases hv : validP a = 0 ∧ validP b = 0
  · rcases plus_cases ha hb hv.1 hv.2 with (h | h) | ⟨M, hM, _, _, hF, _⟩
    · rw [h]; decide
    · rw [h]; decide
    · rw [hM]; exact hF.1
  · unfold plusP
    rw [if_neg (by rw [okP_iff]; exact hv)]
    decide
theorem len_minus {a b : List S57} (ha : Fit a) (hb : Fit b) : (minusP a b).1.length ≤ 1048576 := by
  by_cases hv : validP a = 0 ∧ validP b = 0
  · rcases minus_cases ha hb hv.1 hv.2 with ⟨_, h⟩ | ⟨_, M, hM, _⟩
    · rw [h]; decide
    · rw [hM]
      by_cases h16 : M.length > 16
      · rw [if_pos h16]; decide
      · rw [if_neg h16]; show M.length ≤ 1048576; omega
  · unfold minusP
    rw [if_neg (by rw [okP_iff]; exact hv)]
    decide
theorem len_normal {a : List S57} (ha : Fit a) : (normalP a).1.length ≤ 1048576 := by
  rcases normal_cases a (fun x hx => (ha.2.2 x hx).2) with (h | h | h) | ⟨M, hM, _, hV, _⟩
  · rw [h]; decide
  · rw [h]; decide
  · rw [h]; decide
  · rw [hM]
    have := ((valid_iff M).1 hV).1
    show M.length ≤ 1048576
    omega
theorem lists_j2 {a b : List S57} (ha : Fit a) (hb : Fit b) : Ev (fun k => bursarlaw03_QuantLists.j2 k a b (a ++ [markS]) (b ++ [markS]) false) true := by
  have h1 := ha.1
  have h2 := hb.1
  have h3 := len_minus ha hb
  refine Ev.step (fun k => by simp only [bursarlaw03_QuantLists.j2]; rw [if_neg Bool.false_ne_true, if_pos (by omega), if_pos (lenL a), if_pos (by omega), if_pos (lenL b), behind_take, behind_take]) (Ev.bind (minus_evL ha hb) (Ev.bind (refMinus_ev ha hb) ?_))
  exact Ev.congr (fun k => if_pos rfl) (Ev.bind (same_refl _ (by omega)) (Ev.congr (fun k => if_pos rfl) (Ev.bind (untouched_ev a (by omega)) (Ev.congr (fun k => if_pos rfl) (Ev.bind (untouched_ev b (by omega)) (lists_j3 ha hb))))))
theorem lists_j1 {a b : List S57} (ha : Fit a) (hb : Fit b) : Ev (fun k => bursarlaw03_QuantLists.j1 k a b (a ++ [markS]) (b ++ [markS]) false) true := by
  have h1 := ha.1
  have h2 := hb.1
  have h3 := len_plus ha hb
  refine Ev.step (fun k => by simp only [bursarlaw03_QuantLists.j1]; rw [if_neg Bool.false_ne_true, if_pos (by omega), if_pos (lenL a), if_pos (by omega), if_pos (lenL b), behind_take, behind_take]) (Ev.bind (plus_evL ha hb) (Ev.bind (refPlus_ev ha hb) ?_))
  exact Ev.congr (fun k => if_pos rfl) (Ev.bind (same_refl _ (by omega)) (Ev.congr (fun k => if_pos rfl) (Ev.bind (untouched_ev a (by omega)) (Ev.congr (fun k => if_pos rfl) (Ev.bind (untouched_ev b (by omega)) (lists_j2 ha hb))))))
theorem lists_j0 {a b : List S57} (ha : Fit a) (hb : Fit b) : Ev (fun k => bursarlaw03_QuantLists.j0 k a b (a ++ [markS]) (b ++ [markS]) false) true := by
  have h1 := ha.1
  have h2 := hb.1
  have h3 := len_normal ha
  refine Ev.step (fun k => by simp only [bursarlaw03_QuantLists.j0]; rw [if_neg Bool.false_ne_true, if_pos (by omega), if_pos (lenL a), behind_take]) (Ev.bind (normal_ev a (by omega) ha.2.1) (Ev.bind (refNormal_ev a ha.1 ha.2.1 (fun x hx => (ha.2.2 x hx).2)) ?_))
  exact Ev.congr (fun k => if_pos rfl) (Ev.bind (same_refl _ (by omega)) (Ev.congr (fun k => if_pos rfl) (Ev.bind (untouched_ev a (by omega)) (lists_j1 ha hb))))
theorem QuantLists (a b : List S57) (c0 : Small57 a) (c1 : Small57 b) : ∃ k, bursarlaw03_QuantLists.f k a b = some true := by
  have ha := fit_smallL c0
  have hb := fit_smallL c1
  have h1 := ha.1
  have h2 := hb.1
  refine Ev.rounds ?_
  refine Ev.bind known_ev (Ev.congr (fun k => (if_pos rfl).trans (by rw [behind_is a (by omega), Option.bind_some, behind_is b (by omega), Option.bind_some, if_pos (by omega), if_pos (lenL a), behind_take])) (Ev.bind (valid_ev a ha.1 ha.2.1) (Ev.bind (refValid_ev a ha.1 ha.2.1) ?_)))
  exact Ev.congr (fun k => if_pos rfl) (Ev.bind (untouched_ev a (by omega)) (lists_j0 ha hb))
end Go.Proofs.YtejgbdclhlolkaaGreatDoor.Pure
namespace Go.Proofs.YtejgbdclhlolkaaGreatDoor.Q
open Go.RowKit Go.Lib Go.ChangeShapes Go.Proofs.YtejgbdclhlolkaaGreatDoorW.PrintWords Go.Proofs.YtejgbdclhlolkaaGreatDoorW.PrintLast
set_option linter.unusedVariables false
set_option linter.unusedSimpArgs false
theorem laid_one {P : Program} {w : World} {l : List (String × DataW Unit)} {n : String} {d : DataW Unit} (h : laidMetH P l w) (hl : (l.filter fun x => x.1 == n) = [(n, d)]) (hd : d.handleName? = none) : laidMet P [(n, d)] w := by
  have h1 := h.filter (fun x => x.1 == n)
  rw [hl] at h1
  have h2 := (laidMetH_iff.1 h1).1
  have e : ([(n, d)] : List (String × DataW Unit)).filter (fun x => x.2.handleName?.isNone) = [(n, d)] := by simp [List.filter_cons, hd]
  rw [e] at h2
  exact h2
theorem struct_si {H : Type} {enc : TypeId × Value → H} {P : Program} {w : World} {base : Nat} {sp : Nat → Bool} {held : Bool} {fuel : Nat} {t : TypeId} {f0 f1 : Field} {k : IntKind} {cs : List Value} {l : List UInt8} {v : Int} {p : List MemPlace}
    (ht : P.underlying t = some (.struct #[f0, f1])) (h0 : P.underlying f0.type = some .string) (h1 : P.underlying f1.type = some (.int k)) (o0 : f0.offset = 0) (o1 : f1.offset = 1) (c0 : P.cellsOf f0.type = 1) (c1 : P.cellsOf f1.type = 1) (c : P.cellsOf t = 2)
    (h : DataW.trod enc P w base sp held fuel t cs = some (.agg [.lit (.string l), .lit (.int k v)], p)) : cs = [.string ⟨l.toArray⟩, .int k v] := by
  obtain ⟨y0, y1, n, hx, hl, e0, e1⟩ := trod_struct2 ht h
  rw [o0, c0] at e0
  rw [o1, c1] at e1
  rw [c] at hl
  injection hx with hx _
  injection hx with hx
  injection hx with hx0 hx
  injection hx with hx1 _
  match cs, hl with
  | [a, b], _ =>
    simp only [List.drop_zero, List.take_succ_cons, List.take_zero, List.drop_succ_cons] at e0 e1
    obtain ⟨s, hs, rfl, _⟩ := DataW.trod_string h0 e0
    obtain ⟨z, hz, rfl, _⟩ := DataW.trod_int h1 e1
    injection hs with hs _
    injection hz with hz _
    subst hs hz
    simp only [DataW.lit.injEq, Lit.string.injEq, Lit.int.injEq, true_and] at hx0 hx1
    subst hx0 hx1
    rfl
theorem arr_at {H : Type} {enc : TypeId × Value → H} {P : Program} {w : World} {base : Nat} {sp : Nat → Bool} {held : Bool} {fuel : Nat} {t e : TypeId} {n : Nat} {cs : List Value} {ds : List (DataW H)} {p : List MemPlace}
    (ht : P.underlying t = some (.array n e)) (h : DataW.trod enc P w base sp held fuel t cs = some (.agg ds, p)) (i : Nat) (hi : i < n) : ∃ f d q, ds[i]? = some d ∧ DataW.trod enc P w base sp held f e ((cs.drop (i * P.cellsOf e)).take (P.cellsOf e)) = some (d, q) := by
  cases fuel with
  | zero => simp [DataW.trod] at h
  | succ fuel =>
    simp only [DataW.trod, ht] at h
    split at h
    · obtain ⟨xs, hm, hx⟩ := Option.map_eq_some_iff.1 h
      injection hx with hx _
      injection hx with hx
      obtain ⟨b, hb, hf⟩ := mapM_at hm i i (by simp [hi])
      exact ⟨fuel, b.1, b.2, by rw [← hx]; simp [hb], hf⟩
    · cases h
theorem units_laid {w : World} (h : laidMet Tryz.prog [("bursar/quant.units", Rows.laid_bursar_quant_units)] w) : ∀ j x, unitCells[j]? = some x → w.cell? ⟨1, j, none⟩ = some x := by
  obtain ⟨ps, ⟨g', t', cs, fuel, p, q, hg', ht', hvar, hd, _, _⟩, _⟩ := h
  obtain rfl : g' = 1 := Option.some.inj (hg'.symm.trans (by kernel_rfl))
  obtain rfl : t' = 67 := Option.some.inj (ht'.symm.trans (by kernel_rfl))
  intro j x hx
  rw [World.var?_cell hg' hvar j]
  have hj : j < 24 := (List.getElem?_eq_some_iff.1 hx).1
  obtain ⟨f, d, q', hd1, hd2⟩ := arr_at Tryz.underlying67 hd (j / 2) (by omega)
  rw [show Tryz.prog.cellsOf 66 = 2 by kernel_rfl] at hd2
  have key : ∀ (l : List UInt8) (v : Int), d = .agg [.lit (.string l), .lit (.int .u64 v)] → ((cs.toList.drop (j / 2 * 2)).take 2) = [.string ⟨l.toArray⟩, .int .u64 v] := fun l v e => by
    subst e
    exact struct_si Tryz.underlying66 Tryz.underlying9 Tryz.underlying36 rfl rfl (by kernel_rfl) (by kernel_rfl) (by kernel_rfl) hd2
  have get : ∀ (a b : Value), ((cs.toList.drop (j / 2 * 2)).take 2) = [a, b] → cs[j]? = if j % 2 = 0 then some a else some b := fun a b e => by
    have e1 : ((cs.toList.drop (j / 2 * 2)).take 2)[j % 2]? = [a, b][j % 2]? := by rw [e]
    rw [List.getElem?_take_of_lt (by omega), List.getElem?_drop, show j / 2 * 2 + j % 2 = j by omega, Array.getElem?_toList] at e1
    rw [e1]
    obtain h | h : j % 2 = 0 ∨ j % 2 = 1 := by omega
    · rw [h]; rfl
    · rw [h]; rfl
  obtain rfl | rfl | rfl | rfl | rfl | rfl | rfl | rfl | rfl | rfl | rfl | rfl | rfl | rfl | rfl | rfl | rfl | rfl | rfl | rfl | rfl | rfl | rfl | rfl : j = 0 ∨ j = 1 ∨ j = 2 ∨ j = 3 ∨ j = 4 ∨ j = 5 ∨ j = 6 ∨ j = 7 ∨ j = 8 ∨ j = 9 ∨ j = 10 ∨ j = 11 ∨ j = 12 ∨ j = 13 ∨ j = 14 ∨ j = 15 ∨ j = 16 ∨ j = 17 ∨ j = 18 ∨ j = 19 ∨ j = 20 ∨ j = 21 ∨ j = 22 ∨ j = 23 := by omega
  all_goals
    rw [get _ _ (key _ _ (Option.some.inj hd1).symm)]
    exact hx
theorem mark_laid {w : World} (h : laidMet Tryz.prog [("bursar/bursarlaw03.mark", Rows.laid_bursar_bursarlaw03_mark)] w) : w.cell? ⟨0, 0, none⟩ = some (.string ⟨#[109, 97, 114, 107]⟩) ∧ w.cell? ⟨0, 1, none⟩ = some (.int .i64 77) := by
  obtain ⟨ps, ⟨g', t', cs, fuel, p, q, hg', ht', hvar, hd, _, _⟩, _⟩ := h
  obtain rfl : g' = 0 := Option.some.inj (hg'.symm.trans (by kernel_rfl))
  obtain rfl : t' = 57 := Option.some.inj (ht'.symm.trans (by kernel_rfl))
  rw [World.var?_cell hg' hvar 0, World.var?_cell hg' hvar 1]
  have e := struct_si Tryz.underlying57 Tryz.underlying9 Tryz.underlying2 rfl rfl (by kernel_rfl) (by kernel_rfl) (by kernel_rfl) hd
  rw [← Array.getElem?_toList, ← Array.getElem?_toList, e]
  exact ⟨rfl, rfl⟩
theorem tab_laid {w : World} (h : laidMet Tryz.prog [("internal/strconv.uint64pow10", Rows.laid_internal_strconv_uint64pow10)] w) : Lib.TabIs Tryz.prog w "internal/strconv.uint64pow10" .u64 Lib.pow10Tab :=
  Lib.tabIs_of_head (g := 4) (t := 130) (e := 36) (n := 20) (by kernel_rfl) (by kernel_rfl) Tryz.underlying130 Tryz.underlying36 (by kernel_rfl) (by kernel_rfl) h
theorem globM_of {W : World} (hsh : W.ShapedOpen Tryz.prog) (h : laidMetH Tryz.prog Rows.quantFindsRow.laid W) : GlobM W :=
  ⟨⟨Tryz.laysM146.s1_3 W hsh, tab_laid (laid_one h rfl rfl), units_laid (laid_one h rfl rfl)⟩, (mark_laid (laid_one h rfl rfl)).1, (mark_laid (laid_one h rfl rfl)).2⟩
end Go.Proofs.YtejgbdclhlolkaaGreatDoor.Q
namespace Go.Proofs.YtejgbdclhlolkaaGreatDoor.quantLists
open Go.ChangeShapes Go.WideShapes Go.ChangeAt Go.RowKit
open Go.ChangeMaps (open_string shut_string)
set_option linter.unusedVariables false
set_option linter.unusedSimpArgs false
theorem own : ownKnob Tryz.prog.godebug = none := by kernel_rfl
theorem laidOut : laidOutB Tryz.prog = true := by kernel_rfl
set_option maxRecDepth 100000 in
theorem contract (H : Type) (enc : TypeId × Value → H) (W : World) (base : Nat) (args : Array Value) (ds gs : List (DataW H)) (before : List MemPlace)
    (hval0 : ∀ (j : Nat) t v, Tryz.f15.params[j]? = some t → args[j]? = some v → Value.okWide Tryz.prog W .any base t v)
    (hW : DataW.Whole enc Tryz.prog Tryz.f15.params.toList Rows.quantListsSpec.vars false W args.toList ds gs before)
    (hk : Rows.uptoSmall H (ds ++ gs) = true)
    (hsh : W.ShapedOpen Tryz.prog)
    (hl : laidMetH Tryz.prog Rows.quantListsUptoRow.laid W)
    : Calls Tryz.prog 15 args W fun e W' => ∃ v, e = .returned v ∧ Rows.quantListsSpec.post enc Tryz.prog Tryz.f15 false true false false W args v W' := by
  have hval : ∀ (j : Nat) t v, Tryz.f15.params[j]? = some t → args[j]? = some v → Value.okWide Tryz.prog W .any base t v := hval0
  have hW' := hW
  obtain ⟨p, q, hA0, hV, rfl, hfz, hnd⟩ := hW
  have hA : DataW.TrodAll enc Tryz.prog W 0 (fun _ => true) true Tryz.f15.params.toList args.toList ds p := hA0
  rw [Tryz.params15] at hA hval
  obtain ⟨v0, vs0, d0, ds0, p0, q0, hargs, rfl, rfl, h0, r0⟩ := trodAll_cons hA
  obtain ⟨v1, vs1, d1, ds1, p1, q1, rfl, rfl, rfl, h1, r1⟩ := trodAll_cons r0
  obtain ⟨rfl, rfl, rfl⟩ := trodAll_nil r1
  obtain rfl : args = #[v0, v1] := by cases args; simp_all
  obtain ⟨rfl, rfl⟩ := trodVars_none hV
  obtain ⟨A0, len0, cap0, rfl⟩ := okWide_slice Tryz.underlying46 (hval 0 46 v0 rfl rfl)
  have k0 := h0
  have lt0 : ∀ x ∈ p0, x.block < W.heap.size := by obtain ⟨m, hm⟩ := k0; exact DataW.trod_lt m _ _ _ hm
  obtain ⟨l0, rfl, hr0, hc0, hz0, hm0⟩ := Q.row_open Tryz.underlying46 (by kernel_rfl) Q.opens57 h0
  obtain ⟨A1, len1, cap1, rfl⟩ := okWide_slice Tryz.underlying46 (hval 1 46 v1 rfl rfl)
  have k1 := h1
  have lt1 : ∀ x ∈ p1, x.block < W.heap.size := by obtain ⟨m, hm⟩ := k1; exact DataW.trod_lt m _ _ _ hm
  obtain ⟨l1, rfl, hr1, hc1, hz1, hm1⟩ := Q.row_open Tryz.underlying46 (by kernel_rfl) Q.opens57 h1
  have hb := of_decide_eq_true hk
  simp only [List.append_nil, List.cons_append, List.nil_append, Rows.uptoBulkAll, Rows.uptoBulk, Array.length_toList] at hb
  have c0 : Q.Small57 l0 := Q.small57 hz0 (by omega)
  have c1 : Q.Small57 l1 := Q.small57 hz1 (by omega)
  obtain ⟨k, hp⟩ := Pure.QuantLists l0 l1 c0 c1
  refine (Q.bursarlaw03_QuantLists.calls k A0 cap0 l0 A1 cap1 l1 true W hr0 hc0 hr1 hc1 hp (Q.globM_of hsh hl)).mono fun e W' ⟨he, bel⟩ => ?_
  subst he
  exact ⟨_, rfl, _, _, _, [], _, [], hW', trodAll_mk1 (shut_bool Tryz.underlying4 _), (trodAll_cons_mk (Below.trod laidOut (by kernel_rfl) (of_decide_eq_true (by kernel_rfl)) k0 bel lt0) (trodAll_cons_mk (Below.trod laidOut (by kernel_rfl) (of_decide_eq_true (by kernel_rfl)) k1 bel lt1) trodAll_mk0)), rfl, bel.frame _, fun h => by cases h⟩
noncomputable def tab1 : Obj → Obj
  | .cells _ t frozen => .cells (Go.Pinned.utf8FirstZ.map fun (n : Nat) => Value.int .u8 (n : Int)).toArray t frozen
  | o => o
noncomputable def laidWorld (os : Os) : World :=
  { World.doorLaid Tryz.prog 94 os with heap := (World.doorLaid Tryz.prog 94 os).heap.modify 10 tab1 }
theorem laid_met (os : Os) : laidMet Tryz.prog Rows.quantListsRow.laid ((laidWorld os).forCall (fun _ _ => 0) ⟨#[], #[.slice none 0 0, .slice none 0 0], []⟩).memory :=
  laidMet_of_run' 8 (by kernel_rfl) (by kernel_rfl)
theorem reads (os : Os) {H : Type} (enc : TypeId × Value → H) : ∃ places, DataW.whole enc Tryz.prog ((laidWorld os).forCall (fun _ _ => 0) ⟨#[], #[.slice none 0 0, .slice none 0 0], []⟩).memory Tryz.f15.params.toList Rows.quantListsSpec.vars false (#[.slice none 0 0, .slice none 0 0] : Array Value).toList 8 = some ([.nil, .nil], [], places) :=
  ⟨[], by kernel_rfl⟩
set_option maxRecDepth 100000 in
theorem lifted (os : Os) (started : os.Started) (H : Type) (enc : TypeId × Value → H) (F : Stop.Interp) :
    ReturnsInHanded {} Tryz.checked os 15 .any ((Rows.OpenSpec.upto Rows.quantListsSpec).preRow enc Tryz.prog Tryz.f15 Rows.quantListsUptoRow.domain false Rows.quantListsUptoRow.laid) (((Rows.OpenSpec.upto Rows.quantListsSpec).at F).post enc Tryz.prog Tryz.f15 false true false false) := by
  obtain ⟨places, hx⟩ := reads os enc
  refine returnsInHanded_of_row (C := Tryz.checked) (s := Rows.OpenSpec.upto Rows.quantListsSpec) own started (by kernel_rfl) Tryz.func15
    (witness_row_at (enc := enc) (C := Tryz.checked) false (laidWorld os) #[.slice none 0 0, .slice none 0 0] rfl (by kernel_rfl) (by kernel_rfl) (by kernel_rfl)
      (OpenSpec.preRow_of_cond 8 hx (by kernel_rfl) (fun k hk => by cases hk; kernel_rfl) (by kernel_rfl) (laid_met os))) ?_
  intro W base args ds gs before hval hW _ hcond hsz hl hsh _
  exact contract H enc W base args ds gs before hval hW (hcond _ rfl) hsh hl
theorem said : Rows.QuantListsUptoSaid :=
  OpenClaim.holds_of_cond 15 Tryz.f15 rfl rfl rfl rfl rfl rfl rfl ⟨rfl, rfl, rfl, rfl, rfl⟩ rfl rfl rfl rfl rfl (by kernel_rfl) Tryz.func15 (by kernel_rfl)
    (of_decide_eq_true (by kernel_rfl)) (by unfold Func.isWrapper; first | (rw [if_pos (by decide +kernel)]; kernel_rfl) | (rw [if_neg (by decide +kernel)]; exact ⟨rfl, rfl⟩))
    (fun os started H enc _ F => by rw [OpenClaim.pre_eq_preRow]; exact lifted os started H enc F)
theorem plain (f : FuncId) (fn : Func) (hf : Tryz.pinned.checked.prog.funcNamed "bursar/bursarlaw03.QuantLists" = some f) (hfn : Tryz.pinned.checked.prog.funcs[f]? = some fn) :
    true = Tryz.pinned.checked.prog.looks [] ∧ ∀ (j : Nat) t, fn.params[j]? = some t → Tryz.pinned.checked.prog.wantsStandIn t = false := by
  obtain rfl : f = 15 := Option.some.inj ((show Tryz.prog.funcNamed "bursar/bursarlaw03.QuantLists" = some 15 by kernel_rfl).symm.trans hf) |>.symm
  obtain rfl : fn = Tryz.f15 := (Option.some.inj (Tryz.func15.symm.trans hfn)).symm
  refine ⟨by kernel_rfl, fun j t ht => ?_⟩
  rw [Tryz.params15] at ht
  have hall : ∀ x ∈ [46, 46], Tryz.prog.wantsStandIn x = false := by
    intro x hx; simp only [List.mem_cons, List.mem_nil_iff, or_false] at hx; rcases hx with rfl | rfl <;> kernel_rfl
  exact hall t (by simpa using Array.mem_of_getElem? ht)
theorem card : Rows.QuantListsUptoCardSaid :=
  Claim7.holds_tied_plain_at .later [] _ _ _ _ said (fun _ h => by cases h) (by kernel_rfl) (fun _ h => by cases h) quantListsUpto_row_tie rfl ⟨rfl, rfl⟩ (by kernel_rfl) rfl plain (by kernel_rfl)
end Go.Proofs.YtejgbdclhlolkaaGreatDoor.quantLists
namespace Go.Proofs.YtejgbdclhlolkaaGreatDoor
theorem quantLists_holds : Rows.QuantListsUptoCardSaid := quantLists.card
end Go.Proofs.YtejgbdclhlolkaaGreatDoor
