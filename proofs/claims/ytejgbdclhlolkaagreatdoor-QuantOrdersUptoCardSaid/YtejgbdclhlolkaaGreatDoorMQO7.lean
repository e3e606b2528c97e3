/- What the statement QuantOrdersUptoCardSaid rests on, part 7 of 7: walks and plain laws; what of the printer's words it leans on. -/
import Derived.Test.YtejgbdclhlolkaaGreatDoorRows
import Derived.Test.YtejgbdclhlolkaaGreatDoorCards
import Derived.Test.YtejgbdclhlolkaaGreatDoorTie
import Derived.Test.YtejgbdclhlolkaaGreatDoorMQO3
import Derived.Test.YtejgbdclhlolkaaGreatDoorMQO4
import Derived.Test.YtejgbdclhlolkaaGreatDoorMQO5
import Derived.Test.YtejgbdclhlolkaaGreatDoorMQO6
import Derived.Deep.Slices
import Derived.ChangeArms
import Derived.ProofKit
import Derived.LaidSub
import Derived.Lib.LaidTab
import Derived.ChangeSame
import Derived.WalkKit
import Derived.OpenShut
import Derived.ShutString
import Derived.ChangeOld
import Derived.Below
import Derived.SizedLaws
import Derived.Deep.DeepHandedRow
import Derived.LaidMore
namespace Go.Proofs.YtejgbdclhlolkaaGreatDoor.Q
open Go.RowKit Go.Proofs.YtejgbdclhlolkaaGreatDoorW.PrintWords Go.Proofs.YtejgbdclhlolkaaGreatDoorW.PrintLast
set_option linter.unusedVariables false
set_option linter.unusedSimpArgs false
theorem wl (i : Nat) (h : i < 9223372036854775807) : wrap64 ((i : Int) + 1) = ((i + 1 : Nat) : Int) := by unfold wrap64; omega
theorem ba_iffL (a b : ByteArray) : a.toList = b.toList ↔ a = b := by
  rw [ByteArray.toList_eq, ByteArray.toList_eq]
  refine ⟨fun h => ?_, fun h => by rw [h]⟩
  cases a; cases b; simp only at h; congr 1; exact Array.toList_inj.1 h
theorem rd_get57 (l : List S57) (i : Nat) (h : i < l.length) : rd_T57 l (i : Int) = l[i] := by
  simp [rd_T57, List.getD_eq_getElem?_getD, h]
def ofL (x : ByteArray) : List S57 → Int × Bool
  | [] => (0, false)
  | a :: l => if a.f0 = x then (a.f1, true) else ofL x l
theorem of_l0 (x : ByteArray) (l : List S57) (hl : l.length ≤ 9223372036854775806) : ∀ (m i : Nat), i + m = l.length → Ev (fun k => quant_Of.l0 k x l (l.length : Int) (i : Int)) (ofL x (l.drop i)) := by
  intro m
  induction m with
  | zero =>
    intro i hi
    rw [List.drop_eq_nil_of_le (by omega)]
    refine Ev.step (f := fun _ => some (0, false)) (fun k => ?_) (Ev.now _)
    simp only [quant_Of.l0]
    rw [if_neg (by omega)]
  | succ m ih =>
    intro i hi
    rw [List.drop_eq_getElem_cons (by omega), ofL]
    by_cases h : (l[i]'(by omega)).f0 = x
    · rw [if_pos h]
      refine Ev.step (f := fun _ => some ((l[i]'(by omega)).f1, true)) (fun k => ?_) (Ev.now _)
      simp only [quant_Of.l0]
      rw [if_pos (by omega), if_pos (by omega), if_pos (by omega), rd_get57 l i (by omega), if_pos ((ba_iffL _ _).2 h)]
    · rw [if_neg h]
      refine Ev.step (fun k => ?_) (ih (i + 1) (by omega))
      simp only [quant_Of.l0]
      rw [if_pos (by omega), if_pos (by omega), if_pos (by omega), rd_get57 l i (by omega), if_neg (fun e => h ((ba_iffL _ _).1 e)), wl i (by omega)]
theorem of_ev (x : ByteArray) (l : List S57) (hl : l.length ≤ 9223372036854775806) : Ev (fun k => quant_Of.f k l x) (ofL x l) := of_l0 x l hl l.length 0 (by omega)
theorem same_l0 (l : List S57) (hl : l.length ≤ 9223372036854775806) : ∀ (m i : Nat), i + m = l.length → Ev (fun k => bursarlaw03_same.l0 k l l (i : Int)) true := by
  intro m
  induction m with
  | zero =>
    intro i hi
    refine Ev.step (f := fun _ => some true) (fun k => ?_) (Ev.now _)
    simp only [bursarlaw03_same.l0]
    rw [if_neg (by omega)]
  | succ m ih =>
    intro i hi
    refine Ev.step (fun k => ?_) (ih (i + 1) (by omega))
    simp only [bursarlaw03_same.l0]
    rw [if_pos (by omega), if_pos (by omega), if_pos (by omega), beq_self_eq_true, beq_self_eq_true, if_neg (by decide), wl i (by omega)]
theorem same_refl (l : List S57) (hl : l.length ≤ 9223372036854775806) : Ev (fun k => bursarlaw03_same.f k l l) true :=
  Ev.congr (fun k => if_pos rfl) (same_l0 l hl l.length 0 (by omega))
theorem behind_is (l : List S57) (hl : l.length ≤ 4000000000) : bursarlaw03_behind.f l = some (l ++ [markS]) := if_pos hl
theorem behind_take (l : List S57) : (l ++ [markS]).take ((l.length : Int) : Int).toNat = l := by rw [Int.toNat_natCast, List.take_left' rfl]
end Go.Proofs.YtejgbdclhlolkaaGreatDoor.Q
namespace Go.Proofs.YtejgbdclhlolkaaGreatDoor.Q
open Go.RowKit Go.Proofs.YtejgbdclhlolkaaGreatDoorW.PrintWords Go.Proofs.YtejgbdclhlolkaaGreatDoorW.PrintLast
set_option linter.unusedVariables false
set_option linter.unusedSimpArgs false
def edgeB (c : Int) : Bool := (decide (97 ≤ c) && decide (c ≤ 122)) || (decide (48 ≤ c) && decide (c ≤ 57))
theorem edge_is (c : Int) : quant_edge.f c = some (edgeB c) := by
  unfold quant_edge.f edgeB
  by_cases h1 : c ≥ 97
  · rw [if_pos h1, decide_eq_true (show 97 ≤ c from h1)]
    by_cases h2 : c ≤ 122
    · rw [if_pos h2, decide_eq_true h2]; rfl
    · rw [if_neg h2, if_pos (show c ≥ 48 by omega), decide_eq_false h2, decide_eq_false (show ¬ c ≤ 57 by omega)]; simp
  · rw [if_neg h1, decide_eq_false (show ¬ 97 ≤ c from h1)]
    by_cases h2 : c ≥ 48
    · rw [if_pos h2, decide_eq_true (show 48 ≤ c from h2)]; simp
    · rw [if_neg h2, decide_eq_false (show ¬ 48 ≤ c from h2)]; simp
def innerB (p : ByteArray) (i : Nat) : Bool := edgeB (bt p (i : Int)) || decide (bt p (i : Int) = 45)
def allFrom (p : ByteArray) : Nat → Nat → Bool
  | 0, _ => true
  | m + 1, i => innerB p i && allFrom p m (i + 1)
def pieceB (p : ByteArray) : Bool := !(p.toList == ([] : List UInt8)) && edgeB (bt p 0) && edgeB (bt p ((p.size : Int) - 1)) && allFrom p p.size 0
def piecesOf (s : ByteArray) : List ByteArray := Lib.splitB (⟨#[46]⟩ : ByteArray) 0 (Lib.countB s (⟨#[46]⟩ : ByteArray)) s
def resP (s : ByteArray) : Bool := decide (s.size ≤ 48) && (piecesOf s).all pieceB
theorem rd_ba (l : List ByteArray) (i : Nat) (h : i < l.length) : rdOf ByteArray.empty l (i : Int) = l[i] := by simp [rdOf, List.getD_eq_getElem?_getD, h]
theorem empty_iffR (p : ByteArray) : p.toList = ([] : List UInt8) ↔ p.size = 0 := by rw [ByteArray.toList_eq, Lib.size_eq, List.length_eq_zero_iff]
theorem res_l1 (ps : List ByteArray) (len i : Int) (p : ByteArray) (hp : p.size < 4611686018427387904) (r : Bool) (hK : Ev (fun k => quant_resource.l0 k ps len (wrap64 (i + 1))) r) :
    ∀ (m j : Nat), j + m = p.size → Ev (fun k => quant_resource.l1 k p ps len i (p.size : Int) (j : Int)) (allFrom p m j && r) := by
  intro m
  induction m with
  | zero =>
    intro j hj
    refine Ev.step (fun k => ?_) hK
    simp only [quant_resource.l1]
    rw [if_neg (by omega)]
  | succ m ih =>
    intro j hj
    have key := ih (j + 1) (by omega)
    have hw : wrap64 ((j : Int) + 1) = ((j + 1 : Nat) : Int) := wl j (by omega)
    rw [allFrom]
    cases hi : innerB p j with
    | true =>
      rw [Bool.true_and]
      refine Ev.step (fun k => ?_) key
      simp only [quant_resource.l1]
      rw [if_pos (by omega), if_pos (by omega), if_pos (by omega), edge_is, Option.bind_some, hw]
      unfold innerB at hi
      cases he : edgeB (bt p (j : Int)) with
      | true => rw [if_pos rfl]
      | false =>
        rw [he, Bool.false_or, decide_eq_true_eq] at hi
        rw [if_neg Bool.false_ne_true, if_pos hi]
    | false =>
      rw [Bool.false_and, Bool.false_and]
      refine Ev.step (f := fun _ => some false) (fun k => ?_) (Ev.now _)
      unfold innerB at hi
      rw [Bool.or_eq_false_iff, decide_eq_false_iff_not] at hi
      simp only [quant_resource.l1]
      rw [if_pos (by omega), if_pos (by omega), if_pos (by omega), edge_is, Option.bind_some, hi.1, if_neg Bool.false_ne_true, if_neg hi.2]
theorem res_l0 (ps : List ByteArray) (hl : ps.length < 4611686018427387904) (hs : ∀ p ∈ ps, p.size < 4611686018427387904) :
    ∀ (m i : Nat), i + m = ps.length → Ev (fun k => quant_resource.l0 k ps (ps.length : Int) (i : Int)) ((ps.drop i).all pieceB) := by
  intro m
  induction m with
  | zero =>
    intro i hi
    rw [List.drop_eq_nil_of_le (by omega)]
    refine Ev.step (f := fun _ => some true) (fun k => ?_) (Ev.now _)
    simp only [quant_resource.l0]
    rw [if_neg (by omega)]
  | succ m ih =>
    intro i hi
    have hil : i < ps.length := by omega
    have key := ih (i + 1) (by omega)
    have hw : wrap64 ((i : Int) + 1) = ((i + 1 : Nat) : Int) := wl i (by omega)
    rw [← hw] at key
    have hps := hs ps[i] (List.getElem_mem hil)
    have l1 := res_l1 ps (ps.length : Int) (i : Int) ps[i] hps _ key (ps[i]).size 0 (by omega)
    rw [List.drop_eq_getElem_cons hil, List.all_cons]
    clear hw key
    have hnext : ∀ b : Bool, Ev (fun k => quant_resource.j1 k ps[i] ps (ps.length : Int) (i : Int) b) (if b = true then false else allFrom ps[i] (ps[i]).size 0 && (ps.drop (i + 1)).all pieceB) := by
      intro b
      cases b with
      | true => exact Ev.step (f := fun _ => some false) (fun k => by simp only [quant_resource.j1]; rw [if_pos trivial]) (Ev.now _)
      | false => exact Ev.step (fun k => by simp only [quant_resource.j1]; rw [if_neg Bool.false_ne_true]; rfl) l1
    have hhead : ∀ k, quant_resource.l0 (k + 1) ps (ps.length : Int) (i : Int) = if (ps[i]).toList = ([] : List UInt8) then (quant_resource.j1 k ps[i] ps (ps.length : Int) (i : Int) true) else (if 0 < ((ps[i]).size : Int) then ((quant_edge.f (bt ps[i] 0)).bind fun t450 => (if t450 = true then (if 0 ≤ (wrap64 (((ps[i]).size : Int) - 1)) then (if (wrap64 (((ps[i]).size : Int) - 1)) < ((ps[i]).size : Int) then ((quant_edge.f (bt ps[i] (wrap64 (((ps[i]).size : Int) - 1)))).bind fun t451 => (quant_resource.j1 k ps[i] ps (ps.length : Int) (i : Int) (!t451))) else (none)) else (none)) else (quant_resource.j1 k ps[i] ps (ps.length : Int) (i : Int) true))) else (none)) := by
      intro k
      simp only [quant_resource.l0]
      rw [if_pos (by omega), if_pos (by omega), if_pos (by omega), rd_ba ps i hil]
    generalize ps[i] = p at *
    unfold pieceB
    by_cases h0 : p.toList = ([] : List UInt8)
    · rw [h0, beq_self_eq_true, Bool.not_true, Bool.false_and, Bool.false_and, Bool.false_and, Bool.false_and]
      exact Ev.step (fun k => by rw [hhead, if_pos h0]) (hnext true)
    · have hpos : 0 < p.size := by rw [empty_iffR] at h0; omega
      have hb : (p.toList == ([] : List UInt8)) = false := beq_eq_false_iff_ne.2 h0
      have hw1 : wrap64 ((p.size : Int) - 1) = (p.size : Int) - 1 := by unfold wrap64; omega
      rw [hb, Bool.not_false, Bool.true_and]
      cases he : edgeB (bt p 0) with
      | false =>
        rw [Bool.false_and, Bool.false_and, Bool.false_and]
        exact Ev.step (fun k => by rw [hhead, if_neg h0, if_pos (by omega), edge_is, Option.bind_some, he, if_neg Bool.false_ne_true]) (hnext true)
      | true =>
        rw [Bool.true_and]
        have hn := hnext (!edgeB (bt p ((p.size : Int) - 1)))
        have e : (if (!edgeB (bt p ((p.size : Int) - 1))) = true then false else allFrom p p.size 0 && (ps.drop (i + 1)).all pieceB) = (edgeB (bt p ((p.size : Int) - 1)) && allFrom p p.size 0 && (ps.drop (i + 1)).all pieceB) := by
          cases edgeB (bt p ((p.size : Int) - 1)) <;> simp
        rw [e] at hn
        exact Ev.step (fun k => by rw [hhead, if_neg h0, if_pos (by omega), edge_is, Option.bind_some, he, if_pos rfl, hw1, if_pos (by omega), if_pos (by omega), edge_is, Option.bind_some]) hn
theorem split_le (sep : ByteArray) (save : Nat) : ∀ (k : Nat) (s : ByteArray), ∀ p ∈ Lib.splitB sep save k s, p.size ≤ s.size
  | 0, s, p, hp => by rw [Lib.splitB_zero, List.mem_singleton] at hp; rw [hp]; exact Nat.le_refl _
  | k + 1, s, p, hp => by
    unfold Lib.splitB at hp
    split at hp
    · rw [List.mem_singleton] at hp; rw [hp]; exact Nat.le_refl _
    · rcases List.mem_cons.1 hp with hp | hp
      · rw [hp, ByteArray.size_extract]; omega
      · have := split_le sep save k _ p hp
        rw [ByteArray.size_extract] at this
        omega
theorem resource_ev (s : ByteArray) (hs : s.size < 4294967281) : Ev (fun k => quant_resource.f k s) (resP s) := by
  unfold resP
  by_cases h : 48 < s.size
  · rw [decide_eq_false (by omega), Bool.false_and]
    exact Ev.congr (f := fun _ => some false) (fun k => by unfold quant_resource.f; rw [if_pos (by omega)]) (Ev.now _)
  · rw [decide_eq_true (by omega), Bool.true_and]
    have hf : strings_Split.f s (⟨#[46]⟩ : ByteArray) = some (piecesOf s) := by unfold strings_Split.f; exact if_pos ⟨hs, by decide⟩
    have hc := Lib.countB_le (⟨#[46]⟩ : ByteArray) (by decide) s.size s (Nat.le_refl _)
    have hl : (piecesOf s).length = Lib.countB s (⟨#[46]⟩ : ByteArray) + 1 := Lib.splitB_all (⟨#[46]⟩ : ByteArray) (by decide) 0 _ s rfl
    have key := res_l0 (piecesOf s) (by omega) (fun p hp => by have := split_le _ _ _ s p hp; omega) (piecesOf s).length 0 (by omega)
    refine Ev.congr (fun k => ?_) key
    unfold quant_resource.f
    rw [if_neg (by omega), hf, Option.bind_some]
    rfl
theorem resP_size {s : ByteArray} (h : resP s = true) : s.size ≤ 48 := by
  unfold resP at h
  rw [Bool.and_eq_true, decide_eq_true_eq] at h
  exact h.1
def okPrev (p : Option ByteArray) (x : ByteArray) : Bool := match p with | none => true | some q => nless q x
theorem okPrev_none (x : ByteArray) : okPrev none x = true := rfl
theorem okPrev_some (q x : ByteArray) : okPrev (some q) x = nless q x := rfl
def stepV : Option ByteArray → List S57 → Bool
  | _, [] => true
  | p, a :: r => resP a.f0 && decide (0 ≤ a.f1) && okPrev p a.f0 && stepV (some a.f0) r
theorem stepV_cons (p : Option ByteArray) (a : S57) (r : List S57) : stepV p (a :: r) = (resP a.f0 && decide (0 ≤ a.f1) && okPrev p a.f0 && stepV (some a.f0) r) := rfl
def validB (l : List S57) : Bool := stepV none l
def validP (l : List S57) : Int := if 16 < l.length then 23 else if validB l = true then 0 else 31
def prevOf (l : List S57) (i : Nat) : Option ByteArray := if i = 0 then none else (l[i - 1]?).map (·.f0)
theorem less_toList (x y : ByteArray) : Op.bytesLess x.toList y.toList = nless x y := by rw [ByteArray.toList_eq, ByteArray.toList_eq]; rfl
theorem valid_l0 (l : List S57) (hl : l.length ≤ 1000000) (hs : ∀ a ∈ l, a.f0.size < 4294967281) : ∀ (m i : Nat), i + m = l.length → Ev (fun k => quant_Valid.l0 k l l (l.length : Int) (i : Int)) (if stepV (prevOf l i) (l.drop i) = true then 0 else 31) := by
  intro m
  induction m with
  | zero =>
    intro i hi
    rw [List.drop_eq_nil_of_le (by omega), stepV, if_pos rfl]
    refine Ev.step (f := fun _ => some 0) (fun k => ?_) (Ev.now _)
    simp only [quant_Valid.l0]
    rw [if_neg (by omega)]
  | succ m ih =>
    intro i hi
    have hil : i < l.length := by omega
    have key := ih (i + 1) (by omega)
    have hp1 : prevOf l (i + 1) = some (l[i]).f0 := by unfold prevOf; rw [if_neg (by omega), Nat.add_sub_cancel, List.getElem?_eq_getElem hil]; rfl
    have hre := resource_ev (l[i]).f0 (hs _ (List.getElem_mem hil))
    have hr0 := rd_get57 l i hil
    rw [hp1] at key
    rw [List.drop_eq_getElem_cons hil, stepV_cons]
    have hno : ∀ c : Bool, c = false → (if c = true then (0 : Int) else 31) = 31 := fun c h => by rw [h]; rfl
    refine Ev.step (f := fun k => (quant_resource.f k (l[i]).f0).bind fun t455 => (if t455 = true then (if (l[i]).f1 < 0 then (some 31) else (if (i : Int) > 0 then (if 0 ≤ (wrap64 ((i : Int) - 1)) then (if (wrap64 ((i : Int) - 1)) < (l.length : Int) then (if ((Op.bytesLess (((rd_T57 l (wrap64 ((i : Int) - 1))).f0).toList) (((l[i]).f0).toList)) = true) then (quant_Valid.l0 k l l (l.length : Int) (wrap64 ((i : Int) + 1))) else (some 31)) else (none)) else (none)) else (quant_Valid.l0 k l l (l.length : Int) (wrap64 ((i : Int) + 1))))) else (some 31))) (fun k => ?_) (Ev.bind hre ?_)
    · simp only [quant_Valid.l0]
      rw [if_pos (by omega), if_pos (by omega), if_pos (by omega), hr0]
    · cases hres : resP (l[i]).f0 with
      | false => exact Ev.congr (fun k => if_neg Bool.false_ne_true) (by rw [Bool.false_and, Bool.false_and, Bool.false_and]; exact Ev.now _)
      | true =>
        refine Ev.congr (fun k => if_pos rfl) ?_
        rw [Bool.true_and]
        by_cases hneg : (l[i]).f1 < 0
        · rw [decide_eq_false (by omega), Bool.false_and, Bool.false_and]
          exact Ev.congr (fun k => if_pos hneg) (Ev.now _)
        · rw [decide_eq_true (by omega), Bool.true_and]
          refine Ev.congr (fun k => if_neg hneg) ?_
          by_cases h0 : i = 0
          · have hp0 : prevOf l i = none := by unfold prevOf; rw [if_pos h0]
            rw [hp0, okPrev_none, Bool.true_and]
            refine Ev.congr (fun k => if_neg (by omega)) ?_
            rw [wl i (by omega)]
            exact key
          · have hp0 : prevOf l i = some (l[i - 1]'(by omega)).f0 := by unfold prevOf; rw [if_neg h0, List.getElem?_eq_getElem (by omega)]; rfl
            have hw1 : wrap64 ((i : Int) - 1) = ((i - 1 : Nat) : Int) := by unfold wrap64; omega
            rw [hp0]
            refine Ev.congr (fun k => if_pos (by omega)) ?_
            rw [hw1, rd_get57 l (i - 1) (by omega), less_toList, wl i (by omega)]
            refine Ev.congr (fun k => if_pos (by omega)) (Ev.congr (fun k => if_pos (by omega)) ?_)
            cases hlt : nless (l[i - 1]'(by omega)).f0 (l[i]).f0 with
            | true =>
              refine Ev.congr (fun k => if_pos rfl) ?_
              rw [okPrev_some, hlt, Bool.true_and]
              exact key
            | false =>
              refine Ev.congr (fun k => if_neg Bool.false_ne_true) ?_
              rw [okPrev_some, hlt, Bool.false_and]
              exact Ev.now _
theorem valid_ev (l : List S57) (hl : l.length ≤ 1048576) (hs : ∀ a ∈ l, a.f0.size < 4294967281) : Ev (fun k => quant_Valid.f k l) (validP l) := by
  unfold validP validB
  by_cases h : 16 < l.length
  · rw [if_pos h]
    exact Ev.congr (f := fun _ => some 23) (fun k => by unfold quant_Valid.f; rw [if_pos (by omega)]) (Ev.now _)
  · rw [if_neg h]
    have key := valid_l0 l (by omega) hs l.length 0 (by omega)
    rw [show prevOf l 0 = none from rfl, List.drop_zero] at key
    refine Ev.congr (fun k => ?_) key
    unfold quant_Valid.f
    rw [if_neg (by omega)]
    rfl
theorem step_rises : ∀ (l : List S57) (p : Option ByteArray), stepV p l = true → Rises l ∧ (∀ y ∈ l, resP y.f0 = true ∧ 0 ≤ y.f1) ∧ (∀ q, p = some q → ∀ y ∈ l, nless q y.f0 = true)
  | [], p, _ => ⟨List.Pairwise.nil, by simp, by simp⟩
  | a :: r, p, h => by
    rw [stepV_cons, Bool.and_eq_true, Bool.and_eq_true, Bool.and_eq_true, decide_eq_true_eq] at h
    obtain ⟨⟨⟨h1, h2⟩, h3⟩, h4⟩ := h
    obtain ⟨i1, i2, i3⟩ := step_rises r (some a.f0) h4
    refine ⟨rises_cons.2 ⟨i3 _ rfl, i1⟩, fun y hy => ?_, fun q hq y hy => ?_⟩
    · rcases List.mem_cons.1 hy with rfl | hy
      · exact ⟨h1, h2⟩
      · exact i2 y hy
    · subst hq
      rcases List.mem_cons.1 hy with rfl | hy
      · exact h3
      · exact nless_trans h3 (i3 _ rfl y hy)
theorem rises_step : ∀ (l : List S57) (p : Option ByteArray), Rises l → (∀ y ∈ l, resP y.f0 = true ∧ 0 ≤ y.f1) → (∀ q, p = some q → ∀ y ∈ l, nless q y.f0 = true) → stepV p l = true
  | [], p, _, _, _ => rfl
  | a :: r, p, h1, h2, h3 => by
    obtain ⟨i1, i2⟩ := rises_cons.1 h1
    have ha := h2 a (by simp)
    rw [stepV_cons, Bool.and_eq_true, Bool.and_eq_true, Bool.and_eq_true, decide_eq_true_eq]
    refine ⟨⟨⟨ha.1, ha.2⟩, ?_⟩, rises_step r (some a.f0) i2 (fun y hy => h2 y (by simp [hy])) (fun q hq y hy => by cases hq; exact i1 y hy)⟩
    cases p with
    | none => rfl
    | some q => exact h3 q rfl a (by simp)
theorem valid_iff (l : List S57) : validP l = 0 ↔ l.length ≤ 16 ∧ Rises l ∧ ∀ y ∈ l, resP y.f0 = true ∧ 0 ≤ y.f1 := by
  unfold validP validB
  by_cases h : 16 < l.length
  · rw [if_pos h]
    exact ⟨fun e => by omega, fun e => by omega⟩
  · rw [if_neg h]
    cases hs : stepV none l with
    | true =>
      rw [if_pos rfl]
      have := step_rises l none hs
      exact ⟨fun _ => ⟨by omega, this.1, this.2.1⟩, fun _ => rfl⟩
    | false =>
      rw [if_neg Bool.false_ne_true]
      refine ⟨fun e => by omega, fun e => ?_⟩
      have := rises_step l none e.2.1 e.2.2 (fun q hq => by cases hq)
      rw [hs] at this
      cases this
end Go.Proofs.YtejgbdclhlolkaaGreatDoor.Q
namespace Go.Proofs.YtejgbdclhlolkaaGreatDoor.Q
open Go.RowKit Go.Lib Go.Proofs.YtejgbdclhlolkaaGreatDoorW.PrintWords Go.Proofs.YtejgbdclhlolkaaGreatDoorW.PrintLast
set_option linter.unusedVariables false
set_option linter.unusedSimpArgs false
def tot : List S57 → ByteArray → Int
  | [], _ => 0
  | a :: r, x => (if a.f0 = x then a.f1 else 0) + tot r x
theorem tot_nil (x : ByteArray) : tot [] x = 0 := rfl
theorem tot_cons (a : S57) (r : List S57) (x : ByteArray) : tot (a :: r) x = (if a.f0 = x then a.f1 else 0) + tot r x := rfl
theorem tot_append (l r : List S57) (x : ByteArray) : tot (l ++ r) x = tot l x + tot r x := by
  induction l with
  | nil => rw [List.nil_append, tot_nil]; omega
  | cons a l ih => rw [List.cons_append, tot_cons, tot_cons, ih]; omega
theorem tot_perm {l r : List S57} (h : l.Perm r) (x : ByteArray) : tot l x = tot r x := by
  induction h with
  | nil => rfl
  | cons a _ ih => rw [tot_cons, tot_cons, ih]
  | swap a b l => rw [tot_cons, tot_cons, tot_cons, tot_cons]; omega
  | trans _ _ ih1 ih2 => rw [ih1, ih2]
theorem tot_nonneg {l : List S57} (h : ∀ a ∈ l, 0 ≤ a.f1) (x : ByteArray) : 0 ≤ tot l x := by
  induction l with
  | nil => rw [tot_nil]; omega
  | cons a l ih =>
    rw [tot_cons]
    have h1 := h a (by simp)
    have h2 := ih (fun b hb => h b (by simp [hb]))
    split <;> omega
theorem named_iff (l : List S57) (x : ByteArray) : named l x = true ↔ ∃ y ∈ l, y.f0 = x := by
  unfold named
  rw [List.any_eq_true]
  exact ⟨fun ⟨y, h1, h2⟩ => ⟨y, h1, of_decide_eq_true h2⟩, fun ⟨y, h1, h2⟩ => ⟨y, h1, decide_eq_true h2⟩⟩
theorem named_cons (a : S57) (l : List S57) (x : ByteArray) : named (a :: l) x = true ↔ a.f0 = x ∨ named l x = true := by
  rw [named_iff, named_iff]
  constructor
  · rintro ⟨y, hy, e⟩
    rcases List.mem_cons.1 hy with rfl | hy
    · exact .inl e
    · exact .inr ⟨y, hy, e⟩
  · rintro (e | ⟨y, hy, e⟩)
    · exact ⟨a, by simp, e⟩
    · exact ⟨y, by simp [hy], e⟩
theorem named_perm {l r : List S57} (h : l.Perm r) (x : ByteArray) : named l x = true ↔ named r x = true := by
  rw [named_iff, named_iff]
  exact ⟨fun ⟨y, h1, h2⟩ => ⟨y, h.mem_iff.1 h1, h2⟩, fun ⟨y, h1, h2⟩ => ⟨y, h.mem_iff.2 h1, h2⟩⟩
theorem tot_none {l : List S57} {x : ByteArray} (h : ¬ named l x = true) : tot l x = 0 := by
  induction l with
  | nil => rfl
  | cons a l ih =>
    rw [named_cons] at h
    rw [tot_cons, if_neg (fun e => h (.inl e)), ih (fun e => h (.inr e))]
    rfl
theorem rises_nodup {L : List S57} (h : Rises L) : L.Nodup := List.Pairwise.imp (fun {x y} hxy e => by subst e; exact absurd (show nless x.f0 x.f0 = true from hxy) (by rw [nless_irrefl]; exact Bool.false_ne_true)) h
theorem rises_eq {L M : List S57} (h1 : Rises L) (h2 : Rises M) (h : ∀ y, y ∈ L ↔ y ∈ M) : L = M := by
  have hp : L.Perm M := (List.perm_ext_iff_of_nodup (rises_nodup h1) (rises_nodup h2)).2 h
  have p1 : L.Pairwise (fun a b : S57 => nless a.f0 b.f0 = true) := h1
  have p2 : M.Pairwise (fun a b : S57 => nless a.f0 b.f0 = true) := h2
  refine List.Perm.eq_of_pairwise (le := fun a b : S57 => nless a.f0 b.f0 = true) ?_ p1 p2 hp
  intro a b _ _ h3 h4
  exact absurd (nless_trans h3 h4) (by rw [nless_irrefl]; exact Bool.false_ne_true)
theorem val_ins {L : List S57} (h : Rises L) (x z : ByteArray) (v : Int) : valOf (insS L x v) z = if z = x then v else valOf L z := by
  have hr := rises_ins (x := x) (v := v) h
  by_cases e : z = x
  · rw [if_pos e, e]
    exact val_mem (y := ⟨x, v⟩) hr ((mem_ins h).2 (.inl rfl))
  · rw [if_neg e]
    by_cases hn : ∃ y ∈ L, y.f0 = z
    · obtain ⟨y, hy, rfl⟩ := hn
      rw [val_mem h hy, val_mem hr ((mem_ins h).2 (.inr ⟨hy, e⟩))]
    · rw [val_none (fun y hy e => hn ⟨y, hy, e⟩), val_none]
      intro y hy e2
      rcases (mem_ins h).1 hy with rfl | ⟨hy, _⟩
      · exact e e2.symm
      · exact hn ⟨y, hy, e2⟩
theorem val_ok {L : List S57} (h : Rises L) (hv : ∀ y ∈ L, 0 ≤ y.f1 ∧ y.f1 ≤ 9223372036854775807) (x : ByteArray) : 0 ≤ valOf L x ∧ valOf L x ≤ 9223372036854775807 := by
  by_cases hn : ∃ y ∈ L, y.f0 = x
  · obtain ⟨y, hy, rfl⟩ := hn
    rw [val_mem h hy]
    exact hv y hy
  · rw [val_none (fun y hy e => hn ⟨y, hy, e⟩)]
    omega
theorem addP_in {a v : Int} (ha : 0 ≤ a ∧ a ≤ 9223372036854775807) (hv : 0 ≤ v ∧ v ≤ 9223372036854775807) : addP a v = if 9223372036854775807 < a + v then (0, 7) else (a + v, 0) := by
  unfold addP
  have h : ¬ (a < 0 ∨ v < 0) := by omega
  have hw : wrap64 (9223372036854775807 - v) = 9223372036854775807 - v := by unfold wrap64; omega
  rw [if_neg h, hw]
  by_cases h2 : a > 9223372036854775807 - v
  · rw [if_pos h2, if_pos (by omega)]
  · rw [if_neg h2, if_neg (by omega)]
    have : wrap64 (a + v) = a + v := by unfold wrap64; omega
    rw [this]
theorem sumGo_cons (L : List S57) (a : S57) (r : List S57) : sumGo L (a :: r) = if (addP (valOf L a.f0) a.f1).2 = 0 then sumGo (insS L a.f0 (addP (valOf L a.f0) a.f1).1) r else .error (addP (valOf L a.f0) a.f1).2 := rfl
theorem sumGo_spec : ∀ (r L : List S57), Rises L → (∀ y ∈ L, 0 ≤ y.f1 ∧ y.f1 ≤ 9223372036854775807) → (∀ a ∈ r, 0 ≤ a.f1 ∧ a.f1 ≤ 9223372036854775807) →
    ((∀ x, valOf L x + tot r x ≤ 9223372036854775807) ∧ ∃ M, sumGo L r = .ok M ∧ Rises M ∧ ∀ y, y ∈ M ↔ (named L y.f0 = true ∨ named r y.f0 = true) ∧ y.f1 = valOf L y.f0 + tot r y.f0) ∨
    ((∃ x, 9223372036854775807 < valOf L x + tot r x) ∧ sumGo L r = .error 7) := by
  intro r
  induction r with
  | nil =>
    intro L hL hv _
    refine .inl ⟨fun x => by rw [tot_nil]; have := (val_ok hL hv x).2; omega, L, rfl, hL, fun y => ?_⟩
    rw [tot_nil, Int.add_zero, named_iff]
    constructor
    · intro hy
      exact ⟨.inl ⟨y, hy, rfl⟩, (val_mem hL hy).symm⟩
    · rintro ⟨⟨z, hz, e⟩ | h, h2⟩
      · have h3 := val_mem hL hz
        rw [e, ← h2] at h3
        have : y = z := by cases y; cases z; simp only at e h3; subst e; rw [h3]
        rw [this]; exact hz
      · simp [named] at h
  | cons a r ih =>
    intro L hL hv hr
    have ha := hr a (by simp)
    have hr' : ∀ b ∈ r, 0 ≤ b.f1 ∧ b.f1 ≤ 9223372036854775807 := fun b hb => hr b (by simp [hb])
    have h0 := val_ok hL hv a.f0
    have htn := tot_nonneg (l := r) (fun b hb => (hr' b hb).1)
    rw [sumGo_cons, addP_in h0 ha]
    by_cases hov : 9223372036854775807 < valOf L a.f0 + a.f1
    · rw [if_pos hov, if_neg (show ¬ ((7 : Int) = 0) by omega)]
      refine .inr ⟨⟨a.f0, ?_⟩, rfl⟩
      rw [tot_cons, if_pos rfl]
      have := htn a.f0
      omega
    · rw [if_neg hov, if_pos rfl]
      have key := ih (insS L a.f0 (valOf L a.f0 + a.f1)) (rises_ins hL) (fun y hy => by
        rcases (mem_ins hL).1 hy with rfl | ⟨hy, _⟩
        · exact ⟨by show 0 ≤ valOf L a.f0 + a.f1; omega, by show valOf L a.f0 + a.f1 ≤ _; omega⟩
        · exact hv y hy) hr'
      have hsame : ∀ x, valOf (insS L a.f0 (valOf L a.f0 + a.f1)) x + tot r x = valOf L x + tot (a :: r) x := by
        intro x
        rw [val_ins hL, tot_cons]
        by_cases e : x = a.f0
        · rw [if_pos e, if_pos e.symm, e]; omega
        · rw [if_neg e, if_neg (fun h => e h.symm)]; omega
      rcases key with ⟨h1, M, hM, hR, hmem⟩ | ⟨⟨x, hx⟩, hE⟩
      · refine .inl ⟨fun x => by rw [← hsame]; exact h1 x, M, hM, hR, fun y => ?_⟩
        rw [hmem, hsame, named_cons]
        have hn : named (insS L a.f0 (valOf L a.f0 + a.f1)) y.f0 = true ↔ named L y.f0 = true ∨ a.f0 = y.f0 := by
          rw [named_iff, named_iff]
          constructor
          · rintro ⟨z, hz, e⟩
            rcases (mem_ins hL).1 hz with rfl | ⟨hz, _⟩
            · exact .inr e
            · exact .inl ⟨z, hz, e⟩
          · rintro (⟨z, hz, e⟩ | e)
            · by_cases ez : z.f0 = a.f0
              · exact ⟨⟨a.f0, _⟩, (mem_ins hL).2 (.inl rfl), by rw [← e, ez]⟩
              · exact ⟨z, (mem_ins hL).2 (.inr ⟨hz, ez⟩), e⟩
            · exact ⟨⟨a.f0, _⟩, (mem_ins hL).2 (.inl rfl), e⟩
        rw [hn]
        constructor
        · rintro ⟨(h | h) | h, h2⟩
          · exact ⟨.inl h, h2⟩
          · exact ⟨.inr (.inl h), h2⟩
          · exact ⟨.inr (.inr h), h2⟩
        · rintro ⟨h | h | h, h2⟩
          · exact ⟨.inl (.inl h), h2⟩
          · exact ⟨.inl (.inr h), h2⟩
          · exact ⟨.inr h, h2⟩
      · exact .inr ⟨⟨x, by rw [← hsame]; exact hx⟩, hE⟩
def Canon (l M : List S57) : Prop := Rises M ∧ ∀ y, y ∈ M ↔ named l y.f0 = true ∧ y.f1 = tot l y.f0
theorem canon_unique {l M M' : List S57} (h : Canon l M) (h' : Canon l M') : M = M' := rises_eq h.1 h'.1 (fun y => (h.2 y).trans (h'.2 y).symm)
theorem canon_perm {l r M : List S57} (hp : l.Perm r) (h : Canon l M) : Canon r M := ⟨h.1, fun y => by rw [h.2, named_perm hp, tot_perm hp]⟩
def InV (l : List S57) : Prop := ∀ a ∈ l, 0 ≤ a.f1 ∧ a.f1 ≤ 9223372036854775807
theorem summed_spec (ls : List (List S57)) (h : InV ls.flatten) :
    ((∀ x, tot ls.flatten x ≤ 9223372036854775807) ∧ ∃ M, Canon ls.flatten M ∧ quant_summed.f ls = if M.length > 16 then ([], 23) else (M, 0)) ∨
    ((∃ x, 9223372036854775807 < tot ls.flatten x) ∧ quant_summed.f ls = ([], 7)) := by
  rcases sumGo_spec ls.flatten [] List.Pairwise.nil (fun y hy => by simp at hy) h with ⟨h1, M, hM, hR, hmem⟩ | ⟨⟨x, hx⟩, hE⟩
  · refine .inl ⟨fun x => by have := h1 x; simp only [valOf] at this; omega, M, ⟨hR, fun y => ?_⟩, ?_⟩
    · rw [hmem]
      simp only [valOf, Int.zero_add]
      constructor
      · rintro ⟨h | h, h2⟩
        · simp [named] at h
        · exact ⟨h, h2⟩
      · rintro ⟨h, h2⟩
        exact ⟨.inr h, h2⟩
    · unfold quant_summed.f
      rw [hM]
      rfl
  · refine .inr ⟨⟨x, by simp only [valOf] at hx; omega⟩, ?_⟩
    unfold quant_summed.f
    rw [hE]
def normB (l : List S57) : Bool := l.all fun a => resP a.f0 && decide (0 ≤ a.f1)
def normalP (l : List S57) : List S57 × Int := if normB l = true then quant_summed.f [l] else ([], 31)
theorem normB_iff (l : List S57) : normB l = true ↔ ∀ a ∈ l, resP a.f0 = true ∧ 0 ≤ a.f1 := by
  unfold normB
  rw [List.all_eq_true]
  exact ⟨fun h a ha => by have := h a ha; rw [Bool.and_eq_true, decide_eq_true_eq] at this; exact this, fun h a ha => by rw [Bool.and_eq_true, decide_eq_true_eq]; exact h a ha⟩
theorem normGo_cons (k : Nat) (a : S57) (r : List S57) : normGo k (a :: r) = (quant_resource.f k a.f0).bind fun t => if t = true then (if a.f1 < 0 then some false else normGo k r) else some false := rfl
theorem normGo_ev : ∀ l : List S57, (∀ a ∈ l, a.f0.size < 4294967281) → Ev (fun k => normGo k l) (normB l)
  | [], _ => Ev.now true
  | a :: r, h => by
    have ih := normGo_ev r (fun b hb => h b (by simp [hb]))
    have e : normB (a :: r) = (resP a.f0 && decide (0 ≤ a.f1) && normB r) := rfl
    rw [e]
    refine Ev.congr (fun k => normGo_cons k a r) (Ev.bind (resource_ev a.f0 (h a (by simp))) ?_)
    cases resP a.f0 with
    | false => exact Ev.congr (fun k => if_neg Bool.false_ne_true) (Ev.now _)
    | true =>
      refine Ev.congr (fun k => if_pos rfl) ?_
      by_cases hn : a.f1 < 0
      · rw [decide_eq_false (by omega)]
        exact Ev.congr (fun k => if_pos hn) (Ev.now _)
      · rw [decide_eq_true (by omega)]
        exact Ev.congr (fun k => if_neg hn) ih
theorem normal_ev (l : List S57) (hl : l.length ≤ 4000000) (h : ∀ a ∈ l, a.f0.size < 4294967281) : Ev (fun k => quant_Normal.f k l) (normalP l) := by
  refine Ev.bind (normGo_ev l h) ?_
  unfold normalP
  cases hb : normB l with
  | false => exact Ev.congr (fun k => if_neg Bool.false_ne_true) (Ev.now _)
  | true =>
    have hok : sumOK [l] = true := by
      unfold sumOK
      rw [Bool.and_eq_true, decide_eq_true_eq, List.all_eq_true]
      refine ⟨fun r hr => ?_, by simp; omega⟩
      rw [List.mem_singleton] at hr
      rw [hr, List.all_eq_true]
      intro x hx
      exact decide_eq_true (resP_size ((normB_iff l).1 hb x hx).1)
    exact Ev.congr (fun k => if_pos rfl) (Ev.congr (fun k => if_pos hok) (Ev.now _))
theorem flat1 (l : List S57) : [l].flatten = l := by simp
theorem normB_perm {l r : List S57} (hp : l.Perm r) : normB l = normB r := by
  rw [Bool.eq_iff_iff, normB_iff, normB_iff]
  exact ⟨fun h a ha => h a (hp.mem_iff.2 ha), fun h a ha => h a (hp.mem_iff.1 ha)⟩
theorem inv_of {l : List S57} (hb : normB l = true) (hv : ∀ a ∈ l, a.f1 ≤ 9223372036854775807) : InV l := fun a ha => ⟨((normB_iff l).1 hb a ha).2, hv a ha⟩
theorem normal_perm {l r : List S57} (hp : l.Perm r) (hv : ∀ a ∈ l, a.f1 ≤ 9223372036854775807) : normalP l = normalP r := by
  unfold normalP
  rw [← normB_perm hp]
  cases hb : normB l with
  | false => rfl
  | true =>
    rw [if_pos rfl, if_pos rfl]
    have h1 := summed_spec [l] (by rw [flat1]; exact inv_of hb hv)
    have h2 := summed_spec [r] (by rw [flat1]; exact inv_of (by rw [← normB_perm hp]; exact hb) (fun a ha => hv a (hp.mem_iff.2 ha)))
    rw [flat1] at h1 h2
    rcases h1 with ⟨h1, M, hM, e1⟩ | ⟨⟨x, hx⟩, e1⟩
    · rcases h2 with ⟨_, M', hM', e2⟩ | ⟨⟨x, hx⟩, _⟩
      · rw [e1, e2, canon_unique (canon_perm hp hM) hM']
      · have := h1 x; rw [tot_perm hp] at this; omega
    · rcases h2 with ⟨h2, _⟩ | ⟨_, e2⟩
      · have := h2 x; rw [← tot_perm hp] at this; omega
      · rw [e1, e2]
theorem tot_rises {l : List S57} (h : Rises l) (x : ByteArray) : tot l x = valOf l x := by
  induction l with
  | nil => rfl
  | cons a l ih =>
    obtain ⟨h1, h2⟩ := rises_cons.1 h
    rw [tot_cons]
    unfold valOf
    by_cases e : a.f0 = x
    · rw [if_pos e, if_pos e, tot_none]
      · omega
      · rw [named_iff]
        rintro ⟨y, hy, e2⟩
        have := h1 y hy
        rw [e2, e, nless_irrefl] at this
        cases this
    · rw [if_neg e, if_neg e, ih h2]
      omega
theorem canon_self {l : List S57} (h : Rises l) : Canon l l := ⟨h, fun y => by
  rw [tot_rises h, named_iff]
  constructor
  · intro hy
    exact ⟨⟨y, hy, rfl⟩, (val_mem h hy).symm⟩
  · rintro ⟨⟨z, hz, e⟩, h2⟩
    have h3 := val_mem h hz
    rw [e, ← h2] at h3
    have : y = z := by cases y; cases z; simp only at e h3; subst e; rw [h3]
    rw [this]; exact hz⟩
theorem valid_normal {l : List S57} (h : validP l = 0) (hv : ∀ a ∈ l, a.f1 ≤ 9223372036854775807) : normalP l = (l, 0) := by
  obtain ⟨h1, h2, h3⟩ := (valid_iff l).1 h
  have hb : normB l = true := (normB_iff l).2 h3
  unfold normalP
  rw [if_pos hb]
  have hs := summed_spec [l] (by rw [flat1]; exact inv_of hb hv)
  rw [flat1] at hs
  rcases hs with ⟨_, M, hM, e⟩ | ⟨⟨x, hx⟩, _⟩
  · rw [e, ← canon_unique (canon_self h2) hM, if_neg (by omega)]
  · rw [tot_rises h2] at hx
    have := (val_ok h2 (fun y hy => ⟨(h3 y hy).2, hv y hy⟩) x).2
    omega
theorem normal_cases (l : List S57) (hv : ∀ a ∈ l, a.f1 ≤ 9223372036854775807) :
    (normalP l = ([], 31) ∨ normalP l = ([], 7) ∨ normalP l = ([], 23)) ∨
    ∃ M, normalP l = (M, 0) ∧ Canon l M ∧ validP M = 0 ∧ normB l = true ∧ (∀ x, tot l x ≤ 9223372036854775807) ∧ ∀ a ∈ M, a.f1 ≤ 9223372036854775807 := by
  unfold normalP
  cases hb : normB l with
  | false => exact .inl (.inl rfl)
  | true =>
    rw [if_pos rfl]
    have hs := summed_spec [l] (by rw [flat1]; exact inv_of hb hv)
    rw [flat1] at hs
    rcases hs with ⟨ht, M, hM, e⟩ | ⟨_, e⟩
    · by_cases h16 : M.length > 16
      · rw [e, if_pos h16]; exact .inl (.inr (.inr rfl))
      · rw [e, if_neg h16]
        have hpos := tot_nonneg (l := l) (fun a ha => ((normB_iff l).1 hb a ha).2)
        refine .inr ⟨M, rfl, hM, (valid_iff M).2 ⟨by omega, hM.1, fun y hy => ?_⟩, rfl, ht, fun y hy => ?_⟩
        · obtain ⟨h1, h2⟩ := (hM.2 y).1 hy
          obtain ⟨z, hz, ez⟩ := (named_iff l y.f0).1 h1
          exact ⟨by rw [← ez]; exact ((normB_iff l).1 hb z hz).1, by rw [h2]; exact hpos _⟩
        · rw [((hM.2 y).1 hy).2]; exact ht _
    · rw [e]; exact .inl (.inr (.inl rfl))
end Go.Proofs.YtejgbdclhlolkaaGreatDoor.Q
namespace Go.Proofs.YtejgbdclhlolkaaGreatDoor.Q
open Go.RowKit Go.Proofs.YtejgbdclhlolkaaGreatDoorW.PrintWords Go.Proofs.YtejgbdclhlolkaaGreatDoorW.PrintLast Go.ChangeShapes
set_option linter.unusedVariables false
set_option linter.unusedSimpArgs false
section
variable {H : Type} (enc : TypeId × Value → H) (P : Program) (w : World) (base : Nat) (spare : Nat → Bool) (held : Bool)
def Opens (t : TypeId) {α : Type} (d : Kd α) (Rel : DataW H → α → Prop) : Prop :=
  ∀ (fuel : Nat) (cs : List Value) (x : DataW H × List MemPlace), DataW.trod enc P w base spare held fuel t cs = some x → ∃ a, d.K w a cs ∧ Rel x.1 a
def OpensFs {α : Type} (off : Nat) (fs : List Field) (d : Kd α) (Rel : List (DataW H) → α → Prop) : Prop :=
  ∀ (n : Nat) (cs : List Value) (xs : List (DataW H × List MemPlace)), xs.length = fs.length → cs.length = off + d.sz →
    (∀ (i : Nat) (f : Field), fs[i]? = some f → DataW.trod enc P w base spare held n f.type ((cs.drop f.offset).take (P.cellsOf f.type)) = xs[i]?) → ∃ a, d.K w a (cs.drop off) ∧ Rel (xs.map (·.1)) a
variable {enc : TypeId × Value → H} {P : Program} {w : World} {base : Nat} {spare : Nat → Bool} {held : Bool}
theorem opens_string {t : TypeId} (ht : P.underlying t = some .string) : Opens enc P w base spare held t Kd.string (fun x (s : ByteArray) => x = .lit (.string s.data.toList) ∧ s.size ≤ maxLen) := by
  intro fuel cs x h
  obtain ⟨s, rfl, rfl, hs⟩ := DataW.trod_string ht h
  exact ⟨s, rfl, rfl, hs⟩
theorem opens_int {t : TypeId} {k : IntKind} (ht : P.underlying t = some (.int k)) : Opens enc P w base spare held t (Kd.int k) (fun x (n : Int) => x = .lit (.int k n) ∧ (Lit.int k n).wf = true) := by
  intro fuel cs x h
  obtain ⟨s, rfl, rfl, hs⟩ := DataW.trod_int ht h
  exact ⟨s, rfl, rfl, hs⟩
theorem list_of {α : Type} {p : Nat → α → Prop} : ∀ n : Nat, (∀ i, i < n → ∃ x, p i x) → ∃ l : List α, l.length = n ∧ ∀ i x, l[i]? = some x → p i x
  | 0, _ => ⟨[], rfl, fun i x h => by simp at h⟩
  | n + 1, h => by
    obtain ⟨l, hl, hp⟩ := list_of n (fun i hi => h i (by omega))
    obtain ⟨x, hx⟩ := h n (by omega)
    refine ⟨l ++ [x], by simp [hl], fun i y hy => ?_⟩
    rcases Nat.lt_trichotomy i n with h1 | h1 | h1
    · rw [List.getElem?_append_left (by omega)] at hy; exact hp i y hy
    · subst h1
      rw [List.getElem?_append_right (by omega), hl, Nat.sub_self] at hy
      simp at hy
      exact hy ▸ hx
    · rw [List.getElem?_eq_none (by simp; omega)] at hy; cases hy
def RowD {H : Type} {α : Type} (Rel : DataW H → α → Prop) (x : DataW H) (l : List α) : Prop :=
  (x = .nil ∧ l = []) ∨ ∃ es r, x = .slice es r ∧ es.length = l.length ∧ ∀ (i : Nat) e a, es[i]? = some e → l[i]? = some a → Rel e a
theorem opens_slice {t e : TypeId} {α : Type} {d : Kd α} {Rel : DataW H → α → Prop} (e' : Nat) (ht : P.underlying t = some (.slice e)) (hc : P.cellsOf e = d.sz) (h : Opens enc P w base spare held e d Rel) :
    Opens enc P w base spare held t (Kd.slice e' d) (fun x l => RowD Rel x l ∧ l.length ≤ maxLen) := by
  intro fuel cs x hx
  have h63 : maxLen ≤ 9223372036854775807 := by decide
  rcases Go.Deep.open_slice ht hx with ⟨rfl, rfl⟩ | ⟨a, len, cap, m, n, D, Pl, rfl, hb, hl, hm, hmm, rfl, hi⟩
  · exact ⟨[], ⟨none, 0, rfl, Nat.le_refl _, rfl, Nat.zero_le _, fun h => absurd h (Nat.lt_irrefl 0)⟩, .inl ⟨rfl, rfl⟩, Nat.zero_le _⟩
  · have hlm : len ≤ m := by rw [hmm]; split <;> omega
    obtain ⟨l, hll, hp⟩ := list_of (α := α) (p := fun i y => ∃ cs', w.cells? base (a.add (i * P.cellsOf e)) (P.cellsOf e) = some cs' ∧ d.K w y cs' ∧ Rel (D i) y) len (fun i h1 => by
      obtain ⟨cs', h2, h3⟩ := hi i (by omega)
      obtain ⟨y, hy, hr⟩ := h n cs' _ h3
      exact ⟨y, cs', h2, hy, hr⟩)
    subst hll
    refine ⟨l, ⟨some a, cap, rfl, hl, rfl, by omega, fun _ => ⟨a, rfl, fun j p hj => ?_⟩⟩, .inr ⟨_, _, rfl, by simp, fun i e' a' h1 h2 => ?_⟩, by omega⟩
    · obtain ⟨cs', h2, h3, _⟩ := hp j p hj
      obtain ⟨_, h4, h5⟩ := World.cells?_some h2
      refine ⟨cs', by rw [h4, hc], h3, fun i u hu => ?_⟩
      have hil : i < cs'.length := (List.getElem?_eq_some_iff.1 hu).1
      have := h5 i (by omega)
      rw [hu, Go.Deep.add_add, hc] at this
      exact this
    · obtain ⟨_, _, _, h4⟩ := hp i a' h2
      have hil : i < l.length := (List.getElem?_eq_some_iff.1 h2).1
      simp [hil] at h1
      subst h1
      exact h4
theorem opens_one {f : Field} {off : Nat} {α : Type} {d : Kd α} {Rel : DataW H → α → Prop} (hf : f.offset = off) (hc : P.cellsOf f.type = d.sz) (h : Opens enc P w base spare held f.type d Rel) :
    OpensFs enc P w base spare held off [f] d (fun l a => ∃ y, l = [y] ∧ Rel y a) := by
  intro n cs xs hx hcs hi
  obtain ⟨x, rfl⟩ := List.length_eq_one_iff.1 (show xs.length = 1 from hx)
  have h0 := hi 0 f rfl
  rw [hf, hc, List.take_of_length_le (by rw [List.length_drop]; omega)] at h0
  obtain ⟨a, ha, hr⟩ := h n _ x h0
  exact ⟨a, ha, _, rfl, hr⟩
theorem opens_cons {f : Field} {fs : List Field} {off : Nat} {α β : Type} {d0 : Kd α} {d : Kd β} {R0 : DataW H → α → Prop} {R : List (DataW H) → β → Prop} (hf : f.offset = off) (hc : P.cellsOf f.type = d0.sz) (h0 : Opens enc P w base spare held f.type d0 R0)
    (h : OpensFs enc P w base spare held (off + d0.sz) fs d R) : OpensFs enc P w base spare held off (f :: fs) (Kd.pair d0 d) (fun l a => ∃ y r, l = y :: r ∧ R0 y a.1 ∧ R r a.2) := by
  intro n cs xs hx hcs hi
  cases xs with
  | nil => simp at hx
  | cons x xs =>
    have hsz : (Kd.pair d0 d).sz = d0.sz + d.sz := rfl
    rw [hsz] at hcs
    have h1 := hi 0 f rfl
    rw [hf, hc] at h1
    obtain ⟨a, ha, hr⟩ := h0 n _ x h1
    obtain ⟨b, hb, hs⟩ := h n cs xs (by simpa using hx) (by omega) (fun i g hg => hi (i + 1) g hg)
    refine ⟨(a, b), ⟨_, _, ?_, ha, hb⟩, _, _, rfl, hr, hs⟩
    rw [← List.drop_drop]
    exact (List.take_append_drop _ _).symm
theorem opens_struct {t : TypeId} {fs : Array Field} {α β : Type} {d : Kd α} {R : List (DataW H) → α → Prop} (f : β → α) (g : α → β) (hg : ∀ a, f (g a) = a) (ht : P.underlying t = some (.struct fs)) (hc : P.cellsOf t = d.sz) (h : OpensFs enc P w base spare held 0 fs.toList d R) :
    Opens enc P w base spare held t (Kd.iso d f) (fun x b => ∃ l, x = .agg l ∧ R l (f b)) := by
  intro fuel cs x hx
  obtain ⟨xs, n, _, rfl, hl, hxl, hi⟩ := DataW.trod_struct ht hx
  obtain ⟨a, ha, hr⟩ := h n cs xs (by simpa using hxl) (by rw [hl, hc, Nat.zero_add]) (fun i g hg' => hi i g (by rw [← Array.getElem?_toList]; exact hg'))
  rw [List.drop_zero] at ha
  refine ⟨g a, ?_, _, rfl, ?_⟩
  · show d.K w (f (g a)) cs
    rw [hg]; exact ha
  · rw [hg]; exact hr
theorem row_open {t e : TypeId} {α : Type} {d : Kd α} {Rel : DataW H → α → Prop} {A : Option Addr} {len cap : Nat} {x : DataW H} {ps : List MemPlace} (ht : P.underlying t = some (.slice e)) (hc : P.cellsOf e = d.sz)
    (h : Opens enc P w base spare held e d Rel) (hx : ∃ m, DataW.trod enc P w base spare held m t [.slice A len cap] = some (x, ps)) :
    ∃ l : List α, len = l.length ∧ d.C w A l.length l ∧ l.length ≤ cap ∧ RowD Rel x l ∧ l.length ≤ maxLen := by
  obtain ⟨m, hm⟩ := hx
  obtain ⟨l, ⟨A', c', he, hlc, hC⟩, hr, hml⟩ := opens_slice 0 ht hc h m _ _ hm
  injection he with he _
  injection he with h1 h2 h3
  subst h1 h2 h3
  exact ⟨l, rfl, hC, hlc, hr, hml⟩
end
theorem bulk_pos {H : Type} (d : DataW H) : 1 ≤ Rows.uptoBulk d := by
  cases d with
  | lit l => cases l <;> simp only [Rows.uptoBulk] <;> omega
  | nil => simp only [Rows.uptoBulk]; omega
  | ptr d => simp only [Rows.uptoBulk]; omega
  | slice a b => simp only [Rows.uptoBulk]; omega
  | agg p => simp only [Rows.uptoBulk]; omega
  | iface a d => simp only [Rows.uptoBulk]; omega
  | map e => simp only [Rows.uptoBulk]; omega
  | _ => simp only [Rows.uptoBulk]; omega
theorem bulk_all {H : Type} : ∀ l : List (DataW H), l.length ≤ Rows.uptoBulkAll l ∧ ∀ (i : Nat) x, l[i]? = some x → Rows.uptoBulk x ≤ Rows.uptoBulkAll l
  | [] => ⟨Nat.zero_le _, fun i x h => by simp at h⟩
  | d :: l => by
    obtain ⟨h1, h2⟩ := bulk_all l
    have hp := bulk_pos d
    simp only [Rows.uptoBulkAll, List.length_cons]
    refine ⟨by omega, fun i x h => ?_⟩
    cases i with
    | zero => simp at h; subst h; omega
    | succ i => have := h2 i x (by simpa using h); omega
theorem bulk_row {H : Type} {α : Type} {Rel : DataW H → α → Prop} {x : DataW H} {l : List α} (h : RowD Rel x l) : l.length ≤ Rows.uptoBulk x ∧ ∀ (i : Nat) a, l[i]? = some a → ∃ e, Rel e a ∧ Rows.uptoBulk e ≤ Rows.uptoBulk x := by
  rcases h with ⟨rfl, rfl⟩ | ⟨es, r, rfl, hl, he⟩
  · exact ⟨Nat.zero_le _, fun i a h => by simp at h⟩
  · obtain ⟨h1, h2⟩ := bulk_all es
    simp only [Rows.uptoBulk]
    refine ⟨by omega, fun i a ha => ?_⟩
    have hil : i < es.length := by rw [hl]; exact (List.getElem?_eq_some_iff.1 ha).1
    have hes : es[i]? = some es[i] := List.getElem?_eq_getElem hil
    exact ⟨es[i], he i _ _ hes ha, by have := h2 i _ hes; omega⟩
theorem bulk_agg {H : Type} {l : List (DataW H)} (i : Nat) (x : DataW H) (h : l[i]? = some x) : Rows.uptoBulk x ≤ Rows.uptoBulk (.agg l) := by
  have := (bulk_all l).2 i x h
  simp only [Rows.uptoBulk]
  omega
theorem bulk_str {H : Type} (s : ByteArray) : s.size ≤ Rows.uptoBulk (.lit (.string s.data.toList) : DataW H) := by
  simp only [Rows.uptoBulk, Array.length_toList]
  have : s.data.size = s.size := rfl
  omega
end Go.Proofs.YtejgbdclhlolkaaGreatDoor.Q
namespace Go.Proofs.YtejgbdclhlolkaaGreatDoor.Q
open Go.RowKit Go.Proofs.YtejgbdclhlolkaaGreatDoorW.PrintWords Go.Proofs.YtejgbdclhlolkaaGreatDoorW.PrintLast Go.ChangeShapes
set_option linter.unusedVariables false
set_option linter.unusedSimpArgs false
def StrD {H : Type} (x : DataW H) (s : ByteArray) : Prop := x = .lit (.string s.data.toList) ∧ s.size ≤ maxLen
def AmD {H : Type} (x : DataW H) (b : S57) : Prop := ∃ l, x = .agg l ∧ ∃ y r, l = y :: r ∧ StrD y b.f0 ∧ ∃ y2, r = [y2] ∧ (y2 = .lit (.int .i64 b.f1) ∧ (Lit.int .i64 b.f1).wf = true)
section
variable {H : Type} {enc : TypeId × Value → H} {w : World} {base : Nat} {spare : Nat → Bool} {held : Bool}
theorem opens57 : Opens enc Tryz.prog w base spare held 57 k57 AmD :=
  opens_struct (fun x : S57 => (x.f0, x.f1)) (fun a => ⟨a.1, a.2⟩) (fun _ => rfl) Tryz.underlying57 (by kernel_rfl)
    (opens_cons rfl (by kernel_rfl) (opens_string Tryz.underlying9) (opens_one rfl (by kernel_rfl) (opens_int Tryz.underlying2)))
end
def Small57 (l : List S57) : Prop := l.length ≤ 1048576 ∧ ∀ x ∈ l, x.f0.size ≤ 1048576 ∧ -9223372036854775808 ≤ x.f1 ∧ x.f1 ≤ 9223372036854775807
theorem small57 {H : Type} {d : DataW H} {l : List S57} (h : RowD AmD d l) (hb : Rows.uptoBulk d ≤ 1048576) : Small57 l := by
  obtain ⟨h1, h2⟩ := bulk_row h
  refine ⟨by omega, fun t ht => ?_⟩
  obtain ⟨i, hi, rfl⟩ := List.getElem_of_mem ht
  obtain ⟨e, ⟨l', rfl, y, r, rfl, ⟨rfl, _⟩, y2, rfl, ⟨rfl, hw⟩⟩, he⟩ := h2 i _ (List.getElem?_eq_getElem hi)
  have b1 := bulk_agg (l := [.lit (.string l[i].f0.data.toList), .lit (.int .i64 l[i].f1)]) 0 (.lit (.string l[i].f0.data.toList) : DataW H) rfl
  have b2 := bulk_str (H := H) l[i].f0
  simp only [Lit.wf, IntKind.min, IntKind.max, IntKind.signed, IntKind.bits, Bool.and_eq_true, decide_eq_true_eq, if_true] at hw
  exact ⟨by omega, by omega, by omega⟩
end Go.Proofs.YtejgbdclhlolkaaGreatDoor.Q
namespace Go.Proofs.YtejgbdclhlolkaaGreatDoor.Pure
open Go.RowKit Go.Proofs.YtejgbdclhlolkaaGreatDoorW.PrintWords Go.Proofs.YtejgbdclhlolkaaGreatDoorW.PrintLast Go.Proofs.YtejgbdclhlolkaaGreatDoor.Q
set_option linter.unusedVariables false
set_option linter.unusedSimpArgs false
theorem wo (i : Nat) (h : i < 9223372036854775807) : wrap64 ((i : Int) + 1) = ((i + 1 : Nat) : Int) := by unfold wrap64; omega
theorem turned_is (l : List S57) (n : Int) (hl : l.length ≤ 1048576) : ∃ r, bursarlaw03_turned.f l n = some r ∧ l.Perm r := by
  unfold bursarlaw03_turned.f
  by_cases h0 : (l.length : Int) = 0
  · rw [if_pos h0]
    have : l = [] := List.eq_nil_of_length_eq_zero (by omega)
    exact ⟨_, rfl, by rw [this]⟩
  · rw [if_neg h0]
    obtain ⟨un, hun⟩ : ∃ un : Nat, IntKind.u64.wrap n = (un : Int) := ⟨(IntKind.u64.wrap n).toNat, by simp [IntKind.wrap, IntKind.bits, IntKind.signed]; omega⟩
    have hul : IntKind.u64.wrap (l.length : Int) = (l.length : Int) := by simp [IntKind.wrap, IntKind.bits, IntKind.signed]; omega
    have ht : Int.tmod (un : Int) (l.length : Int) = ((un % l.length : Nat) : Int) := by rw [Int.tmod_eq_emod_of_nonneg (by omega), ← Int.natCast_emod]
    have hlt : un % l.length < l.length := Nat.mod_lt _ (by omega)
    have hw : wrap64 ((un % l.length : Nat) : Int) = ((un % l.length : Nat) : Int) := by unfold wrap64; omega
    rw [hun, hul, if_neg h0, ht, hw]
    obtain ⟨m, hm⟩ : ∃ m, m = un % l.length := ⟨_, rfl⟩
    rw [← hm] at hlt ⊢
    rw [if_pos (by omega), if_pos (by omega), Int.toNat_natCast, Option.bind_some, if_pos (by simp; omega), Option.bind_some, Option.bind_some, List.nil_append, if_pos (by simp; omega)]
    refine ⟨_, rfl, ?_⟩
    have : (l.drop m ++ l.take m).Perm (l.take m ++ l.drop m) := List.perm_append_comm
    rw [List.take_append_drop] at this
    exact this.symm
theorem back_l0' (l : List S57) (hl : l.length ≤ 1048576) : ∀ (i : Nat) (acc : List S57), i ≤ l.length → acc.length + i ≤ 2000000 → Ev (fun k => bursarlaw03_back.l0 k l acc ((i : Int) - 1)) (acc ++ (l.take i).reverse) := by
  intro i
  induction i with
  | zero =>
    intro acc _ _
    rw [List.take_zero, List.reverse_nil, List.append_nil]
    exact Ev.step (f := fun _ => some acc) (fun k => by simp only [bursarlaw03_back.l0]; rw [if_neg (by omega)]) (Ev.now _)
  | succ i ih =>
    intro acc hi ha
    have key := ih (acc ++ [l[i]'(by omega)]) (by omega) (by simp; omega)
    have e : acc ++ [l[i]'(by omega)] ++ (l.take i).reverse = acc ++ (l.take (i + 1)).reverse := by
      rw [List.append_assoc, List.take_succ_eq_append_getElem (by omega), List.reverse_append]
      rfl
    rw [e] at key
    refine Ev.step (fun k => ?_) key
    have e1 : ((i + 1 : Nat) : Int) - 1 = (i : Int) := by omega
    have hw : wrap64 ((i : Int) - 1) = (i : Int) - 1 := by unfold wrap64; omega
    simp only [bursarlaw03_back.l0]
    rw [e1, hw, if_pos (by omega), if_pos (by omega), if_pos (by omega), if_pos (by omega), rd_get57 l i (by omega)]
theorem back_ev (l : List S57) (hl : l.length ≤ 1048576) : Ev (fun k => bursarlaw03_back.f k l) l.reverse := by
  have := back_l0' l hl l.length [] (Nat.le_refl _) (by simp; omega)
  rw [List.take_length, List.nil_append] at this
  have hw : wrap64 ((l.length : Int) - 1) = (l.length : Int) - 1 := by unfold wrap64; omega
  exact Ev.congr (fun k => by unfold bursarlaw03_back.f; rw [hw]) this
theorem ord_l1 (l M : List S57) (hl : l.length ≤ 1048576) (hv : ∀ a ∈ l, 0 ≤ a.f1) (ht : ∀ x, tot l x ≤ 9223372036854775807) (i : Nat) (hi : i < M.length) (hM : (M[i]).f1 = tot l (M[i]).f0) (hn : named l (M[i]).f0 = true)
    (r : Bool) (hK : Ev (fun k => bursarlaw03_QuantOrders.l0 k l M (wrap64 ((i : Int) + 1))) r) :
    ∀ (m j : Nat), j + m = l.length → Ev (fun k => bursarlaw03_QuantOrders.l1 k l M (i : Int) (tot (l.take j) (M[i]).f0) (named (l.take j) (M[i]).f0) (j : Int)) r := by
  intro m
  induction m with
  | zero =>
    intro j hj
    rw [List.take_of_length_le (by omega), hn]
    refine Ev.step (fun k => ?_) hK
    simp only [bursarlaw03_QuantOrders.l1]
    rw [if_neg (by omega), if_pos trivial, if_pos (by omega), if_pos (by omega), rd_get57 M i hi, if_pos hM.symm]
  | succ m ih =>
    intro j hj
    have hjl : j < l.length := by omega
    have key := ih (j + 1) (by omega)
    have htk : l.take (j + 1) = l.take j ++ [l[j]] := List.take_succ_eq_append_getElem hjl
    have hp0 : ∀ x, 0 ≤ tot (l.take j) x := tot_nonneg (fun a ha => hv a (List.mem_of_mem_take ha))
    have hle : tot (l.take (j + 1)) (M[i]).f0 ≤ tot l (M[i]).f0 := by
      have := tot_append (l.take (j + 1)) (l.drop (j + 1)) (M[i]).f0
      rw [List.take_append_drop] at this
      have h2 := tot_nonneg (l := l.drop (j + 1)) (fun a ha => hv a (List.mem_of_mem_drop ha)) (M[i]).f0
      omega
    have hts : tot (l.take (j + 1)) (M[i]).f0 = tot (l.take j) (M[i]).f0 + (if (l[j]).f0 = (M[i]).f0 then (l[j]).f1 else 0) := by
      rw [htk, tot_append, tot_cons, tot_nil]; omega
    have hmax := ht (M[i]).f0
    have hh := hp0 (M[i]).f0
    have hva := hv l[j] (List.getElem_mem hjl)
    have hwj := wo j (by omega)
    by_cases e : (l[j]).f0 = (M[i]).f0
    · have hnn : named (l.take (j + 1)) (M[i]).f0 = true := (named_iff _ _).2 ⟨l[j], by rw [htk]; exact List.mem_append.2 (.inr (List.mem_singleton.2 rfl)), e⟩
      rw [if_pos e] at hts
      rw [hnn, hts] at key
      have hw : wrap64 (tot (l.take j) (M[i]).f0 + (l[j]).f1) = tot (l.take j) (M[i]).f0 + (l[j]).f1 := by
        clear hwj
        unfold wrap64; omega
      refine Ev.step (fun k => ?_) key
      simp only [bursarlaw03_QuantOrders.l1]
      rw [if_pos (Int.ofNat_lt.2 hjl), if_pos (Int.natCast_nonneg j), if_pos (Int.natCast_nonneg i), if_pos (Int.ofNat_lt.2 hi), rd_get57 l j hjl, rd_get57 M i hi, if_pos ((ba_iffL _ _).2 e), hw, hwj]
    · have hnn : named (l.take (j + 1)) (M[i]).f0 = named (l.take j) (M[i]).f0 := by
        rw [Bool.eq_iff_iff, named_iff, named_iff, htk]
        constructor
        · rintro ⟨y, hy, e2⟩
          rcases List.mem_append.1 hy with hy | hy
          · exact ⟨y, hy, e2⟩
          · rw [List.mem_singleton] at hy; rw [hy] at e2; exact absurd e2 e
        · rintro ⟨y, hy, e2⟩
          exact ⟨y, List.mem_append.2 (.inl hy), e2⟩
      rw [if_neg e, Int.add_zero] at hts
      rw [hnn, hts] at key
      refine Ev.step (fun k => ?_) key
      simp only [bursarlaw03_QuantOrders.l1]
      rw [if_pos (Int.ofNat_lt.2 hjl), if_pos (Int.natCast_nonneg j), if_pos (Int.natCast_nonneg i), if_pos (Int.ofNat_lt.2 hi), rd_get57 l j hjl, rd_get57 M i hi, if_neg (fun h => e ((ba_iffL _ _).1 h)), hwj]
theorem of_named (x : ByteArray) : ∀ M : List S57, (ofL x M).2 = named M x
  | [] => rfl
  | a :: M => by
    unfold ofL
    by_cases e : a.f0 = x
    · rw [if_pos e]
      exact ((named_cons a M x).2 (.inl e)).symm
    · rw [if_neg e, of_named x M, Bool.eq_iff_iff, named_cons]
      exact ⟨fun h => .inr h, fun h => h.resolve_left e⟩
theorem ord_l2 (l M : List S57) (hl : l.length ≤ 1048576) (hM : M.length ≤ 16) (hn : ∀ a ∈ l, named M a.f0 = true) : ∀ (m j : Nat), j + m = l.length → Ev (fun k => bursarlaw03_QuantOrders.l2 k l M (j : Int)) true := by
  intro m
  induction m with
  | zero =>
    intro j hj
    exact Ev.step (f := fun _ => some true) (fun k => by simp only [bursarlaw03_QuantOrders.l2]; rw [if_neg (by omega)]) (Ev.now _)
  | succ m ih =>
    intro j hj
    have hjl : j < l.length := by omega
    have key := ih (j + 1) (by omega)
    have hnj := hn l[j] (List.getElem_mem hjl)
    refine Ev.step (f := fun k => (quant_Of.f k M (l[j]).f0).bind fun bt519 => (if bt519.2 = true then (bursarlaw03_QuantOrders.l2 k l M ((j + 1 : Nat) : Int)) else (some false))) (fun k => ?_) (Ev.bind (of_ev (l[j]).f0 M (by omega)) (Ev.congr (fun k => if_pos (by rw [of_named, hnj])) key))
    simp only [bursarlaw03_QuantOrders.l2]
    rw [if_pos (by omega), if_pos (by omega), rd_get57 l j hjl, wo j (by omega)]
theorem ord_l0 (l M : List S57) (hl : l.length ≤ 1048576) (hv : ∀ a ∈ l, 0 ≤ a.f1) (ht : ∀ x, tot l x ≤ 9223372036854775807) (hC : Canon l M) (hM : M.length ≤ 16) : ∀ (m i : Nat), i + m = M.length → Ev (fun k => bursarlaw03_QuantOrders.l0 k l M (i : Int)) true := by
  intro m
  induction m with
  | zero =>
    intro i hi
    have hn : ∀ a ∈ l, named M a.f0 = true := fun a ha => (named_iff _ _).2 ⟨⟨a.f0, tot l a.f0⟩, (hC.2 _).2 ⟨(named_iff _ _).2 ⟨a, ha, rfl⟩, rfl⟩, rfl⟩
    refine Ev.step (fun k => ?_) (ord_l2 l M hl hM hn l.length 0 (by omega))
    simp only [bursarlaw03_QuantOrders.l0]
    rw [if_neg (by omega)]
    rfl
  | succ m ih =>
    intro i hi
    have him : i < M.length := by omega
    have key := ih (i + 1) (by omega)
    rw [← wo i (by omega)] at key
    have hc := (hC.2 M[i]).1 (List.getElem_mem him)
    refine Ev.step (fun k => ?_) (ord_l1 l M hl hv ht i him hc.2 hc.1 true key l.length 0 (by omega))
    simp only [bursarlaw03_QuantOrders.l0]
    rw [if_pos (Int.ofNat_lt.2 him)]
    rfl
theorem QuantOrders (l : List S57) (n : Int) (c0 : Small57 l) (w1 : (Lit.int .i64 n).wf = true) : ∃ k, bursarlaw03_QuantOrders.f k l n = some true := by
  have hl := c0.1
  have hs : ∀ a ∈ l, a.f0.size < 4294967281 := fun a ha => by have := (c0.2 a ha).1; omega
  have hv : ∀ a ∈ l, a.f1 ≤ 9223372036854775807 := fun a ha => (c0.2 a ha).2.2
  obtain ⟨tl, htl, hpt⟩ := turned_is l n hl
  have hpb : l.Perm l.reverse := (List.reverse_perm l).symm
  have hb : ∀ r : List S57, (r.length : Int) ≤ ((r ++ [markS]).length : Int) := fun r => by rw [List.length_append]; omega
  refine Ev.rounds ?_
  refine Ev.congr (fun k => rfl) (Ev.bind known_ev (Ev.congr (fun k => if_pos rfl) ?_))
  rw [behind_is l (by omega)]
  refine Ev.congr (fun k => Option.bind_some _ _) (Ev.congr (fun k => if_pos (by omega)) (Ev.congr (fun k => if_pos (hb l)) ?_))
  rw [behind_take, htl]
  have e1 := normal_ev tl (by rw [← hpt.length_eq]; omega) (fun a ha => hs a (hpt.mem_iff.2 ha))
  have e2 := normal_ev l.reverse (by rw [List.length_reverse]; omega) (fun a ha => hs a (by simpa using ha))
  rw [← normal_perm hpt hv] at e1
  rw [← normal_perm hpb hv] at e2
  refine Ev.bind (normal_ev l (by omega) hs) (Ev.congr (fun k => Option.bind_some _ _) (Ev.bind e1 (Ev.bind (back_ev l hl) (Ev.bind e2 (Ev.congr (fun k => if_pos rfl) (Ev.congr (fun k => if_pos rfl) ?_))))))
  have hval := valid_ev l hl hs
  have hj0 : ∀ (M : List S57) (e : Int), (validP l = 0 → M = l ∧ e = 0) → Ev (fun k => bursarlaw03_QuantOrders.j1 k l M e false) true → Ev (fun k => bursarlaw03_QuantOrders.j0 k l M e false) true := by
    intro M e h1 h2
    refine Ev.step (f := fun k => (quant_Valid.f k l).bind fun t492 => (if t492 = 0 then (if e = 0 then ((bursarlaw03_same.f k M l).bind fun t493 => (bursarlaw03_QuantOrders.j1 k l M e (!t493))) else (bursarlaw03_QuantOrders.j1 k l M e true)) else (bursarlaw03_QuantOrders.j1 k l M e false))) (fun k => ?_) (Ev.bind hval ?_)
    · simp only [bursarlaw03_QuantOrders.j0]
      rw [if_neg Bool.false_ne_true, behind_is l (by omega), Option.bind_some, if_pos (by omega), if_pos (hb l), behind_take]
    · by_cases h0 : validP l = 0
      · obtain ⟨hM, he⟩ := h1 h0
        refine Ev.congr (fun k => if_pos h0) (Ev.congr (fun k => if_pos he) ?_)
        rw [hM] at h2 ⊢
        exact Ev.bind (same_refl l (by omega)) h2
      · exact Ev.congr (fun k => if_neg h0) h2
  have hvn : validP l = 0 → (normalP l).1 = l ∧ (normalP l).2 = 0 := fun h => by rw [valid_normal h hv]; exact ⟨rfl, rfl⟩
  rcases normal_cases l hv with hE | ⟨M, hE, hC, hVM, hnb, ht, hvM⟩
  · have hlen : (normalP l).1 = [] ∧ ((normalP l).2 = 31 ∨ (normalP l).2 = 7 ∨ (normalP l).2 = 23) := by
      rcases hE with h | h | h <;> rw [h] <;> simp
    refine Ev.bind (same_refl _ (by rw [hlen.1]; decide)) (Ev.congr (fun k => if_pos rfl) (Ev.bind (same_refl _ (by rw [hlen.1]; decide)) ?_))
    refine hj0 _ _ hvn ?_
    rw [hlen.1]
    refine Ev.step (f := fun _ => some true) (fun k => ?_) (Ev.now _)
    simp only [bursarlaw03_QuantOrders.j1]
    rw [if_neg Bool.false_ne_true]
    rcases hlen.2 with h | h | h <;> rw [h] <;> rfl
  · have h16 := ((valid_iff M).1 hVM).1
    have hres := ((valid_iff M).1 hVM).2.2
    rw [hE] at hvn ⊢
    have hMs : M.length ≤ 9223372036854775806 := by omega
    refine Ev.bind (same_refl M hMs) (Ev.congr (fun k => if_pos rfl) (Ev.bind (same_refl M hMs) ?_))
    refine hj0 _ _ hvn ?_
    have hMsz : ∀ a ∈ M, a.f0.size < 4294967281 := fun a ha => by have := resP_size (hres a ha).1; omega
    have hvmM := valid_normal hVM hvM
    have en := normal_ev M (by omega) hMsz
    rw [hvmM] at en
    have ev := valid_ev M (by omega) hMsz
    rw [hVM] at ev
    have hl0 := ord_l0 l M hl (fun a ha => ((normB_iff l).1 hnb a ha).2) ht hC h16 M.length 0 (by omega)
    have hj2 : Ev (fun k => bursarlaw03_QuantOrders.j2 k l M false) true := Ev.step (fun k => by simp only [bursarlaw03_QuantOrders.j2]; rw [if_neg Bool.false_ne_true]; rfl) hl0
    refine Ev.step (f := fun k => (quant_Normal.f k M).bind fun bt501 => (quant_Valid.f k M).bind fun t512 => (if t512 = 0 then (if bt501.2 = 0 then ((bursarlaw03_same.f k M bt501.1).bind fun t513 => (bursarlaw03_QuantOrders.j2 k l M (!t513))) else (bursarlaw03_QuantOrders.j2 k l M true)) else (bursarlaw03_QuantOrders.j2 k l M true))) (fun k => ?_) (Ev.bind en (Ev.bind ev (Ev.congr (fun k => if_pos rfl) (Ev.congr (fun k => if_pos rfl) (Ev.bind (same_refl M hMs) hj2)))))
    simp only [bursarlaw03_QuantOrders.j1]
    rw [if_neg Bool.false_ne_true, if_pos trivial, behind_is M (by omega), Option.bind_some, if_pos (by omega), if_pos (hb M), behind_take]
    congr 1
    funext bt
    rw [Option.bind_some, if_pos (hb M), behind_take]
end Go.Proofs.YtejgbdclhlolkaaGreatDoor.Pure
namespace Go.Proofs.YtejgbdclhlolkaaGreatDoor.Q
open Go.RowKit Go.Lib Go.ChangeShapes Go.Proofs.YtejgbdclhlolkaaGreatDoorW.PrintWords Go.Proofs.YtejgbdclhlolkaaGreatDoorW.PrintLast
set_option linter.unusedVariables false
set_option linter.unusedSimpArgs false
theorem laid_one {P : Program} {w : World} {l : List (String × DataW Unit)} {n : String} {d : DataW Unit} (h : laidMetH P l w) (hl : (l.filter fun x => x.1 == n) = [(n, d)]) (hd : d.handleName? = none) : laidMet P [(n, d)] w := by
  have h1 := h.filter (fun x => x.1 == n)
  rw [hl] at h1
  have h2 := (laidMetH_iff.1 h1).1
  have e : ([(n, d)] : List (String × DataW Unit)).filter (fun x => x.2.handleName?.isNone) = [(n, d)] := by simp [List.filter_cons, hd]
  rw [e] at h2
  exact h2
theorem struct_si {H : Type} {enc : TypeId × Value → H} {P : Program} {w : World} {base : Nat} {sp : Nat → Bool} {held : Bool} {fuel : Nat} {t : TypeId} {f0 f1 : Field} {k : IntKind} {cs : List Value} {l : List UInt8} {v : Int} {p : List MemPlace}
    (ht : P.underlying t = some (.struct #[f0, f1])) (h0 : P.underlying f0.type = some .string) (h1 : P.underlying f1.type = some (.int k)) (o0 : f0.offset = 0) (o1 : f1.offset = 1) (c0 : P.cellsOf f0.type = 1) (c1 : P.cellsOf f1.type = 1) (c : P.cellsOf t = 2)
    (h : DataW.trod enc P w base sp held fuel t cs = some (.agg [.lit (.string l), .lit (.int k v)], p)) : cs = [.string ⟨l.toArray⟩, .int k v] := by
  obtain ⟨y0, y1, n, hx, hl, e0, e1⟩ := trod_struct2 ht h
  rw [o0, c0] at e0
  rw [o1, c1] at e1
  rw [c] at hl
  injection hx with hx _
  injection hx with hx
  injection hx with hx0 hx
  injection hx with hx1 _
  match cs, hl with
  | [a, b], _ =>
    simp only [List.drop_zero, List.take_succ_cons, List.take_zero, List.drop_succ_cons] at e0 e1
    obtain ⟨s, hs, rfl, _⟩ := DataW.trod_string h0 e0
    obtain ⟨z, hz, rfl, _⟩ := DataW.trod_int h1 e1
    injection hs with hs _
    injection hz with hz _
    subst hs hz
    simp only [DataW.lit.injEq, Lit.string.injEq, Lit.int.injEq, true_and] at hx0 hx1
    subst hx0 hx1
    rfl
theorem arr_at {H : Type} {enc : TypeId × Value → H} {P : Program} {w : World} {base : Nat} {sp : Nat → Bool} {held : Bool} {fuel : Nat} {t e : TypeId} {n : Nat} {cs : List Value} {ds : List (DataW H)} {p : List MemPlace}
    (ht : P.underlying t = some (.array n e)) (h : DataW.trod enc P w base sp held fuel t cs = some (.agg ds, p)) (i : Nat) (hi : i < n) : ∃ f d q, ds[i]? = some d ∧ DataW.trod enc P w base sp held f e ((cs.drop (i * P.cellsOf e)).take (P.cellsOf e)) = some (d, q) := by
  cases fuel with
  | zero => simp [DataW.trod] at h
  | succ fuel =>
    simp only [DataW.trod, ht] at h
    split at h
    · obtain ⟨xs, hm, hx⟩ := Option.map_eq_some_iff.1 h
      injection hx with hx _
      injection hx with hx
      obtain ⟨b, hb, hf⟩ := mapM_at hm i i (by simp [hi])
      exact ⟨fuel, b.1, b.2, by rw [← hx]; simp [hb], hf⟩
    · cases h
theorem units_laid {w : World} (h : laidMet Tryz.prog [("bursar/quant.units", Rows.laid_bursar_quant_units)] w) : ∀ j x, unitCells[j]? = some x → w.cell? ⟨1, j, none⟩ = some x := by
  obtain ⟨ps, ⟨g', t', cs, fuel, p, q, hg', ht', hvar, hd, _, _⟩, _⟩ := h
  obtain rfl : g' = 1 := Option.some.inj (hg'.symm.trans (by kernel_rfl))
  obtain rfl : t' = 67 := Option.some.inj (ht'.symm.trans (by kernel_rfl))
  intro j x hx
  rw [World.var?_cell hg' hvar j]
  have hj : j < 24 := (List.getElem?_eq_some_iff.1 hx).1
  obtain ⟨f, d, q', hd1, hd2⟩ := arr_at Tryz.underlying67 hd (j / 2) (by omega)
  rw [show Tryz.prog.cellsOf 66 = 2 by kernel_rfl] at hd2
  have key : ∀ (l : List UInt8) (v : Int), d = .agg [.lit (.string l), .lit (.int .u64 v)] → ((cs.toList.drop (j / 2 * 2)).take 2) = [.string ⟨l.toArray⟩, .int .u64 v] := fun l v e => by
    subst e
    exact struct_si Tryz.underlying66 Tryz.underlying9 Tryz.underlying36 rfl rfl (by kernel_rfl) (by kernel_rfl) (by kernel_rfl) hd2
  have get : ∀ (a b : Value), ((cs.toList.drop (j / 2 * 2)).take 2) = [a, b] → cs[j]? = if j % 2 = 0 then some a else some b := fun a b e => by
    have e1 : ((cs.toList.drop (j / 2 * 2)).take 2)[j % 2]? = [a, b][j % 2]? := by rw [e]
    rw [List.getElem?_take_of_lt (by omega), List.getElem?_drop, show j / 2 * 2 + j % 2 = j by omega, Array.getElem?_toList] at e1
    rw [e1]
    obtain h | h : j % 2 = 0 ∨ j % 2 = 1 := by omega
    · rw [h]; rfl
    · rw [h]; rfl
  obtain rfl | rfl | rfl | rfl | rfl | rfl | rfl | rfl | rfl | rfl | rfl | rfl | rfl | rfl | rfl | rfl | rfl | rfl | rfl | rfl | rfl | rfl | rfl | rfl : j = 0 ∨ j = 1 ∨ j = 2 ∨ j = 3 ∨ j = 4 ∨ j = 5 ∨ j = 6 ∨ j = 7 ∨ j = 8 ∨ j = 9 ∨ j = 10 ∨ j = 11 ∨ j = 12 ∨ j = 13 ∨ j = 14 ∨ j = 15 ∨ j = 16 ∨ j = 17 ∨ j = 18 ∨ j = 19 ∨ j = 20 ∨ j = 21 ∨ j = 22 ∨ j = 23 := by omega
  all_goals
    rw [get _ _ (key _ _ (Option.some.inj hd1).symm)]
    exact hx
theorem mark_laid {w : World} (h : laidMet Tryz.prog [("bursar/bursarlaw03.mark", Rows.laid_bursar_bursarlaw03_mark)] w) : w.cell? ⟨0, 0, none⟩ = some (.string ⟨#[109, 97, 114, 107]⟩) ∧ w.cell? ⟨0, 1, none⟩ = some (.int .i64 77) := by
  obtain ⟨ps, ⟨g', t', cs, fuel, p, q, hg', ht', hvar, hd, _, _⟩, _⟩ := h
  obtain rfl : g' = 0 := Option.some.inj (hg'.symm.trans (by kernel_rfl))
  obtain rfl : t' = 57 := Option.some.inj (ht'.symm.trans (by kernel_rfl))
  rw [World.var?_cell hg' hvar 0, World.var?_cell hg' hvar 1]
  have e := struct_si Tryz.underlying57 Tryz.underlying9 Tryz.underlying2 rfl rfl (by kernel_rfl) (by kernel_rfl) (by kernel_rfl) hd
  rw [← Array.getElem?_toList, ← Array.getElem?_toList, e]
  exact ⟨rfl, rfl⟩
theorem tab_laid {w : World} (h : laidMet Tryz.prog [("internal/strconv.uint64pow10", Rows.laid_internal_strconv_uint64pow10)] w) : Lib.TabIs Tryz.prog w "internal/strconv.uint64pow10" .u64 Lib.pow10Tab :=
  Lib.tabIs_of_head (g := 4) (t := 130) (e := 36) (n := 20) (by kernel_rfl) (by kernel_rfl) Tryz.underlying130 Tryz.underlying36 (by kernel_rfl) (by kernel_rfl) h
theorem globM_of {W : World} (hsh : W.ShapedOpen Tryz.prog) (h : laidMetH Tryz.prog Rows.quantFindsRow.laid W) : GlobM W :=
  ⟨⟨Tryz.laysM146.s1_3 W hsh, tab_laid (laid_one h rfl rfl), units_laid (laid_one h rfl rfl)⟩, (mark_laid (laid_one h rfl rfl)).1, (mark_laid (laid_one h rfl rfl)).2⟩
end Go.Proofs.YtejgbdclhlolkaaGreatDoor.Q
namespace Go.Proofs.YtejgbdclhlolkaaGreatDoor.quantOrders
open Go.ChangeShapes Go.WideShapes Go.ChangeAt Go.RowKit
open Go.ChangeMaps (open_string shut_string)
set_option linter.unusedVariables false
set_option linter.unusedSimpArgs false
theorem own : ownKnob Tryz.prog.godebug = none := by kernel_rfl
theorem laidOut : laidOutB Tryz.prog = true := by kernel_rfl
set_option maxRecDepth 100000 in
theorem contract (H : Type) (enc : TypeId × Value → H) (W : World) (base : Nat) (args : Array Value) (ds gs : List (DataW H)) (before : List MemPlace)
    (hval0 : ∀ (j : Nat) t v, Tryz.f12.params[j]? = some t → args[j]? = some v → Value.okWide Tryz.prog W .any base t v)
    (hW : DataW.Whole enc Tryz.prog Tryz.f12.params.toList Rows.quantOrdersSpec.vars false W args.toList ds gs before)
    (hk : Rows.uptoSmall H (ds ++ gs) = true)
    (hsh : W.ShapedOpen Tryz.prog)
    (hl : laidMetH Tryz.prog Rows.quantOrdersUptoRow.laid W)
    : Calls Tryz.prog 12 args W fun e W' => ∃ v, e = .returned v ∧ Rows.quantOrdersSpec.post enc Tryz.prog Tryz.f12 false true false false W args v W' := by
  have hval : ∀ (j : Nat) t v, Tryz.f12.params[j]? = some t → args[j]? = some v → Value.okWide Tryz.prog W .any base t v := hval0
  have hW' := hW
  obtain ⟨p, q, hA0, hV, rfl, hfz, hnd⟩ := hW
  have hA : DataW.TrodAll enc Tryz.prog W 0 (fun _ => true) true Tryz.f12.params.toList args.toList ds p := hA0
  rw [Tryz.params12] at hA hval
  obtain ⟨v0, vs0, d0, ds0, p0, q0, hargs, rfl, rfl, h0, r0⟩ := trodAll_cons hA
  obtain ⟨v1, vs1, d1, ds1, p1, q1, rfl, rfl, rfl, h1, r1⟩ := trodAll_cons r0
  obtain ⟨rfl, rfl, rfl⟩ := trodAll_nil r1
  obtain rfl : args = #[v0, v1] := by cases args; simp_all
  obtain ⟨rfl, rfl⟩ := trodVars_none hV
  obtain ⟨A0, len0, cap0, rfl⟩ := okWide_slice Tryz.underlying46 (hval 0 46 v0 rfl rfl)
  have k0 := h0
  have lt0 : ∀ x ∈ p0, x.block < W.heap.size := by obtain ⟨m, hm⟩ := k0; exact DataW.trod_lt m _ _ _ hm
  obtain ⟨l0, rfl, hr0, hc0, hz0, hm0⟩ := Q.row_open Tryz.underlying46 (by kernel_rfl) Q.opens57 h0
  obtain ⟨a1, rfl, rfl, rfl, w1⟩ := open_int Tryz.underlying3 (hval 1 3 v1 rfl rfl) h1
  have hb := of_decide_eq_true hk
  simp only [List.append_nil, List.cons_append, List.nil_append, Rows.uptoBulkAll, Rows.uptoBulk, Array.length_toList] at hb
  have c0 : Q.Small57 l0 := Q.small57 hz0 (by omega)
  obtain ⟨k, hp⟩ := Pure.QuantOrders l0 a1 c0 w1
  refine (Q.bursarlaw03_QuantOrders.calls k A0 cap0 l0 a1 true W hr0 hc0 hp (Q.globM_of hsh hl)).mono fun e W' ⟨he, bel⟩ => ?_
  subst he
  exact ⟨_, rfl, _, _, _, [], _, [], hW', trodAll_mk1 (shut_bool Tryz.underlying4 _), (trodAll_cons_mk (Below.trod laidOut (by kernel_rfl) (of_decide_eq_true (by kernel_rfl)) k0 bel lt0) (trodAll_cons_mk (shut_int Tryz.underlying3 w1) trodAll_mk0)), rfl, bel.frame _, fun h => by cases h⟩
noncomputable def tab1 : Obj → Obj
  | .cells _ t frozen => .cells (Go.Pinned.utf8FirstZ.map fun (n : Nat) => Value.int .u8 (n : Int)).toArray t frozen
  | o => o
noncomputable def laidWorld (os : Os) : World :=
  { World.doorLaid Tryz.prog 94 os with heap := (World.doorLaid Tryz.prog 94 os).heap.modify 10 tab1 }
theorem laid_met (os : Os) : laidMet Tryz.prog Rows.quantOrdersRow.laid ((laidWorld os).forCall (fun _ _ => 0) ⟨#[], #[.slice none 0 0, .int .i64 0], []⟩).memory :=
  laidMet_of_run' 8 (by kernel_rfl) (by kernel_rfl)
theorem reads (os : Os) {H : Type} (enc : TypeId × Value → H) : ∃ places, DataW.whole enc Tryz.prog ((laidWorld os).forCall (fun _ _ => 0) ⟨#[], #[.slice none 0 0, .int .i64 0], []⟩).memory Tryz.f12.params.toList Rows.quantOrdersSpec.vars false (#[.slice none 0 0, .int .i64 0] : Array Value).toList 8 = some ([.nil, .lit (.int .i64 0)], [], places) :=
  ⟨[], by kernel_rfl⟩
set_option maxRecDepth 100000 in
theorem lifted (os : Os) (started : os.Started) (H : Type) (enc : TypeId × Value → H) (F : Stop.Interp) :
    ReturnsInHanded {} Tryz.checked os 12 .any ((Rows.OpenSpec.upto Rows.quantOrdersSpec).preRow enc Tryz.prog Tryz.f12 Rows.quantOrdersUptoRow.domain false Rows.quantOrdersUptoRow.laid) (((Rows.OpenSpec.upto Rows.quantOrdersSpec).at F).post enc Tryz.prog Tryz.f12 false true false false) := by
  obtain ⟨places, hx⟩ := reads os enc
  refine returnsInHanded_of_row (C := Tryz.checked) (s := Rows.OpenSpec.upto Rows.quantOrdersSpec) own started (by kernel_rfl) Tryz.func12
    (witness_row_at (enc := enc) (C := Tryz.checked) false (laidWorld os) #[.slice none 0 0, .int .i64 0] rfl (by kernel_rfl) (by kernel_rfl) (by kernel_rfl)
      (OpenSpec.preRow_of_cond 8 hx (by kernel_rfl) (fun k hk => by cases hk; kernel_rfl) (by kernel_rfl) (laid_met os))) ?_
  intro W base args ds gs before hval hW _ hcond hsz hl hsh _
  exact contract H enc W base args ds gs before hval hW (hcond _ rfl) hsh hl
theorem said : Rows.QuantOrdersUptoSaid :=
  OpenClaim.holds_of_cond 12 Tryz.f12 rfl rfl rfl rfl rfl rfl rfl ⟨rfl, rfl, rfl, rfl, rfl⟩ rfl rfl rfl rfl rfl (by kernel_rfl) Tryz.func12 (by kernel_rfl)
    (of_decide_eq_true (by kernel_rfl)) (by unfold Func.isWrapper; first | (rw [if_pos (by decide +kernel)]; kernel_rfl) | (rw [if_neg (by decide +kernel)]; exact ⟨rfl, rfl⟩))
    (fun os started H enc _ F => by rw [OpenClaim.pre_eq_preRow]; exact lifted os started H enc F)
theorem plain (f : FuncId) (fn : Func) (hf : Tryz.pinned.checked.prog.funcNamed "bursar/bursarlaw03.QuantOrders" = some f) (hfn : Tryz.pinned.checked.prog.funcs[f]? = some fn) :
    true = Tryz.pinned.checked.prog.looks [] ∧ ∀ (j : Nat) t, fn.params[j]? = some t → Tryz.pinned.checked.prog.wantsStandIn t = false := by
  obtain rfl : f = 12 := Option.some.inj ((show Tryz.prog.funcNamed "bursar/bursarlaw03.QuantOrders" = some 12 by kernel_rfl).symm.trans hf) |>.symm
  obtain rfl : fn = Tryz.f12 := (Option.some.inj (Tryz.func12.symm.trans hfn)).symm
  refine ⟨by kernel_rfl, fun j t ht => ?_⟩
  rw [Tryz.params12] at ht
  have hall : ∀ x ∈ [46, 3], Tryz.prog.wantsStandIn x = false := by
    intro x hx; simp only [List.mem_cons, List.mem_nil_iff, or_false] at hx; rcases hx with rfl | rfl <;> kernel_rfl
  exact hall t (by simpa using Array.mem_of_getElem? ht)
theorem card : Rows.QuantOrdersUptoCardSaid :=
  Claim7.holds_tied_plain_at .later [] _ _ _ _ said (fun _ h => by cases h) (by kernel_rfl) (fun _ h => by cases h) quantOrdersUpto_row_tie rfl ⟨rfl, rfl⟩ (by kernel_rfl) rfl plain (by kernel_rfl)
end Go.Proofs.YtejgbdclhlolkaaGreatDoor.quantOrders
namespace Go.Proofs.YtejgbdclhlolkaaGreatDoor
theorem quantOrders_holds : Rows.QuantOrdersUptoCardSaid := quantOrders.card
end Go.Proofs.YtejgbdclhlolkaaGreatDoor
