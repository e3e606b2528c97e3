/- What the statement QuantAddsUpUptoCardSaid rests on, part 7 of 7: walks and plain laws; what of the printer's words it leans on. -/
import Derived.Test.YtejgbdclhlolkaaGreatDoorRows
import Derived.Test.YtejgbdclhlolkaaGreatDoorCards
import Derived.Test.YtejgbdclhlolkaaGreatDoorTie
import Derived.Test.YtejgbdclhlolkaaGreatDoorMQA3
import Derived.Test.YtejgbdclhlolkaaGreatDoorMQA4
import Derived.Test.YtejgbdclhlolkaaGreatDoorMQA5
import Derived.Test.YtejgbdclhlolkaaGreatDoorMQA6
import Derived.Deep.Slices
import Derived.ChangeArms
import Derived.ProofKit
import Derived.LaidSub
import Derived.Lib.LaidTab
import Derived.ChangeSame
import Derived.WalkKit
import Derived.OpenShut
import Derived.ShutString
import Derived.ChangeOld
import Derived.Below
import Derived.SizedLaws
import Derived.Deep.DeepHandedRow
import Derived.LaidMore
namespace Go.Proofs.YtejgbdclhlolkaaGreatDoor.Q
open Go.RowKit Go.Proofs.YtejgbdclhlolkaaGreatDoorW.PrintWords Go.Proofs.YtejgbdclhlolkaaGreatDoorW.PrintLast
set_option linter.unusedVariables false
set_option linter.unusedSimpArgs false
theorem wl (i : Nat) (h : i < 9223372036854775807) : wrap64 ((i : Int) + 1) = ((i + 1 : Nat) : Int) := by unfold wrap64; omega
theorem ba_iffL (a b : ByteArray) : a.toList = b.toList ↔ a = b := by
  rw [ByteArray.toList_eq, ByteArray.toList_eq]
  refine ⟨fun h => ?_, fun h => by rw [h]⟩
  cases a; cases b; simp only at h; congr 1; exact Array.toList_inj.1 h
theorem rd_get57 (l : List S57) (i : Nat) (h : i < l.length) : rd_T57 l (i : Int) = l[i] := by
  simp [rd_T57, List.getD_eq_getElem?_getD, h]
def ofL (x : ByteArray) : List S57 → Int × Bool
  | [] => (0, false)
  | a :: l => if a.f0 = x then (a.f1, true) else ofL x l
theorem of_l0 (x : ByteArray) (l : List S57) (hl : l.length ≤ 9223372036854775806) : ∀ (m i : Nat), i + m = l.length → Ev (fun k => quant_Of.l0 k x l (l.length : Int) (i : Int)) (ofL x (l.drop i)) := by
  intro m
  induction m with
  | zero =>
    intro i hi
    rw [List.drop_eq_nil_of_le (by omega)]
    refine Ev.step (f := fun _ => some (0, false)) (fun k => ?_) (Ev.now _)
    simp only [quant_Of.l0]
    rw [if_neg (by omega)]
  | succ m ih =>
    intro i hi
    rw [List.drop_eq_getElem_cons (by omega), ofL]
    by_cases h : (l[i]'(by omega)).f0 = x
    · rw [if_pos h]
      refine Ev.step (f := fun _ => some ((l[i]'(by omega)).f1, true)) (fun k => ?_) (Ev.now _)
      simp only [quant_Of.l0]
      rw [if_pos (by omega), if_pos (by omega), if_pos (by omega), rd_get57 l i (by omega), if_pos ((ba_iffL _ _).2 h)]
    · rw [if_neg h]
      refine Ev.step (fun k => ?_) (ih (i + 1) (by omega))
      simp only [quant_Of.l0]
      rw [if_pos (by omega), if_pos (by omega), if_pos (by omega), rd_get57 l i (by omega), if_neg (fun e => h ((ba_iffL _ _).1 e)), wl i (by omega)]
theorem of_ev (x : ByteArray) (l : List S57) (hl : l.length ≤ 9223372036854775806) : Ev (fun k => quant_Of.f k l x) (ofL x l) := of_l0 x l hl l.length 0 (by omega)
theorem same_l0 (l : List S57) (hl : l.length ≤ 9223372036854775806) : ∀ (m i : Nat), i + m = l.length → Ev (fun k => bursarlaw03_same.l0 k l l (i : Int)) true := by
  intro m
  induction m with
  | zero =>
    intro i hi
    refine Ev.step (f := fun _ => some true) (fun k => ?_) (Ev.now _)
    simp only [bursarlaw03_same.l0]
    rw [if_neg (by omega)]
  | succ m ih =>
    intro i hi
    refine Ev.step (fun k => ?_) (ih (i + 1) (by omega))
    simp only [bursarlaw03_same.l0]
    rw [if_pos (by omega), if_pos (by omega), if_pos (by omega), beq_self_eq_true, beq_self_eq_true, if_neg (by decide), wl i (by omega)]
theorem same_refl (l : List S57) (hl : l.length ≤ 9223372036854775806) : Ev (fun k => bursarlaw03_same.f k l l) true :=
  Ev.congr (fun k => if_pos rfl) (same_l0 l hl l.length 0 (by omega))
theorem behind_is (l : List S57) (hl : l.length ≤ 4000000000) : bursarlaw03_behind.f l = some (l ++ [markS]) := if_pos hl
theorem behind_take (l : List S57) : (l ++ [markS]).take ((l.length : Int) : Int).toNat = l := by rw [Int.toNat_natCast, List.take_left' rfl]
end Go.Proofs.YtejgbdclhlolkaaGreatDoor.Q
namespace Go.Proofs.YtejgbdclhlolkaaGreatDoor.Q
open Go.RowKit Go.Proofs.YtejgbdclhlolkaaGreatDoorW.PrintWords Go.Proofs.YtejgbdclhlolkaaGreatDoorW.PrintLast
set_option linter.unusedVariables false
set_option linter.unusedSimpArgs false
def edgeB (c : Int) : Bool := (decide (97 ≤ c) && decide (c ≤ 122)) || (decide (48 ≤ c) && decide (c ≤ 57))
theorem edge_is (c : Int) : quant_edge.f c = some (edgeB c) := by
  unfold quant_edge.f edgeB
  by_cases h1 : c ≥ 97
  · rw [if_pos h1, decide_eq_true (show 97 ≤ c from h1)]
    by_cases h2 : c ≤ 122
    · rw [if_pos h2, decide_eq_true h2]; rfl
    · rw [if_neg h2, if_pos (show c ≥ 48 by omega), decide_eq_false h2, decide_eq_false (show ¬ c ≤ 57 by omega)]; simp
  · rw [if_neg h1, decide_eq_false (show ¬ 97 ≤ c from h1)]
    by_cases h2 : c ≥ 48
    · rw [if_pos h2, decide_eq_true (show 48 ≤ c from h2)]; simp
    · rw [if_neg h2, decide_eq_false (show ¬ 48 ≤ c from h2)]; simp
def innerB (p : ByteArray) (i : Nat) : Bool := edgeB (bt p (i : Int)) || decide (bt p (i : Int) = 45)
def allFrom (p : ByteArray) : Nat → Nat → Bool
  | 0, _ => true
  | m + 1, i => innerB p i && allFrom p m (i + 1)
def pieceB (p : ByteArray) : Bool := !(p.toList == ([] : List UInt8)) && edgeB (bt p 0) && edgeB (bt p ((p.size : Int) - 1)) && allFrom p p.size 0
def piecesOf (s : ByteArray) : List ByteArray := Lib.splitB (⟨#[46]⟩ : ByteArray) 0 (Lib.countB s (⟨#[46]⟩ : ByteArray)) s
def resP (s : ByteArray) : Bool := decide (s.size ≤ 48) && (piecesOf s).all pieceB
theorem rd_ba (l : List ByteArray) (i : Nat) (h : i < l.length) : rdOf ByteArray.empty l (i : Int) = l[i] := by simp [rdOf, List.getD_eq_getElem?_getD, h]
theorem empty_iffR (p : ByteArray) : p.toList = ([] : List UInt8) ↔ p.size = 0 := by rw [ByteArray.toList_eq, Lib.size_eq, List.length_eq_zero_iff]
theorem res_l1 (ps : List ByteArray) (len i : Int) (p : ByteArray) (hp : p.size < 4611686018427387904) (r : Bool) (hK : Ev (fun k => quant_resource.l0 k ps len (wrap64 (i + 1))) r) :
    ∀ (m j : Nat), j + m = p.size → Ev (fun k => quant_resource.l1 k p ps len i (p.size : Int) (j : Int)) (allFrom p m j && r) := by
  intro m
  induction m with
  | zero =>
    intro j hj
    refine Ev.step (fun k => ?_) hK
    simp only [quant_resource.l1]
    rw [if_neg (by omega)]
  | succ m ih =>
    intro j hj
    have key := ih (j + 1) (by omega)
    have hw : wrap64 ((j : Int) + 1) = ((j + 1 : Nat) : Int) := wl j (by omega)
    rw [allFrom]
    cases hi : innerB p j with
    | true =>
      rw [Bool.true_and]
      refine Ev.step (fun k => ?_) key
      simp only [quant_resource.l1]
      rw [if_pos (by omega), if_pos (by omega), if_pos (by omega), edge_is, Option.bind_some, hw]
      unfold innerB at hi
      cases he : edgeB (bt p (j : Int)) with
      | true => rw [if_pos rfl]
      | false =>
        rw [he, Bool.false_or, decide_eq_true_eq] at hi
        rw [if_neg Bool.false_ne_true, if_pos hi]
    | false =>
      rw [Bool.false_and, Bool.false_and]
      refine Ev.step (f := fun _ => some false) (fun k => ?_) (Ev.now _)
      unfold innerB at hi
      rw [Bool.or_eq_false_iff, decide_eq_false_iff_not] at hi
      simp only [quant_resource.l1]
      rw [if_pos (by omega), if_pos (by omega), if_pos (by omega), edge_is, Option.bind_some, hi.1, if_neg Bool.false_ne_true, if_neg hi.2]
theorem res_l0 (ps : List ByteArray) (hl : ps.length < 4611686018427387904) (hs : ∀ p ∈ ps, p.size < 4611686018427387904) :
    ∀ (m i : Nat), i + m = ps.length → Ev (fun k => quant_resource.l0 k ps (ps.length : Int) (i : Int)) ((ps.drop i).all pieceB) := by
  intro m
  induction m with
  | zero =>
    intro i hi
    rw [List.drop_eq_nil_of_le (by omega)]
    refine Ev.step (f := fun _ => some true) (fun k => ?_) (Ev.now _)
    simp only [quant_resource.l0]
    rw [if_neg (by omega)]
  | succ m ih =>
    intro i hi
    have hil : i < ps.length := by omega
    have key := ih (i + 1) (by omega)
    have hw : wrap64 ((i : Int) + 1) = ((i + 1 : Nat) : Int) := wl i (by omega)
    rw [← hw] at key
    have hps := hs ps[i] (List.getElem_mem hil)
    have l1 := res_l1 ps (ps.length : Int) (i : Int) ps[i] hps _ key (ps[i]).size 0 (by omega)
    rw [List.drop_eq_getElem_cons hil, List.all_cons]
    clear hw key
    have hnext : ∀ b : Bool, Ev (fun k => quant_resource.j1 k ps[i] ps (ps.length : Int) (i : Int) b) (if b = true then false else allFrom ps[i] (ps[i]).size 0 && (ps.drop (i + 1)).all pieceB) := by
      intro b
      cases b with
      | true => exact Ev.step (f := fun _ => some false) (fun k => by simp only [quant_resource.j1]; rw [if_pos trivial]) (Ev.now _)
      | false => exact Ev.step (fun k => by simp only [quant_resource.j1]; rw [if_neg Bool.false_ne_true]; rfl) l1
    have hhead : ∀ k, quant_resource.l0 (k + 1) ps (ps.length : Int) (i : Int) = if (ps[i]).toList = ([] : List UInt8) then (quant_resource.j1 k ps[i] ps (ps.length : Int) (i : Int) true) else (if 0 < ((ps[i]).size : Int) then ((quant_edge.f (bt ps[i] 0)).bind fun t450 => (if t450 = true then (if 0 ≤ (wrap64 (((ps[i]).size : Int) - 1)) then (if (wrap64 (((ps[i]).size : Int) - 1)) < ((ps[i]).size : Int) then ((quant_edge.f (bt ps[i] (wrap64 (((ps[i]).size : Int) - 1)))).bind fun t451 => (quant_resource.j1 k ps[i] ps (ps.length : Int) (i : Int) (!t451))) else (none)) else (none)) else (quant_resource.j1 k ps[i] ps (ps.length : Int) (i : Int) true))) else (none)) := by
      intro k
      simp only [quant_resource.l0]
      rw [if_pos (by omega), if_pos (by omega), if_pos (by omega), rd_ba ps i hil]
    generalize ps[i] = p at *
    unfold pieceB
    by_cases h0 : p.toList = ([] : List UInt8)
    · rw [h0, beq_self_eq_true, Bool.not_true, Bool.false_and, Bool.false_and, Bool.false_and, Bool.false_and]
      exact Ev.step (fun k => by rw [hhead, if_pos h0]) (hnext true)
    · have hpos : 0 < p.size := by rw [empty_iffR] at h0; omega
      have hb : (p.toList == ([] : List UInt8)) = false := beq_eq_false_iff_ne.2 h0
      have hw1 : wrap64 ((p.size : Int) - 1) = (p.size : Int) - 1 := by unfold wrap64; omega
      rw [hb, Bool.not_false, Bool.true_and]
      cases he : edgeB (bt p 0) with
      | false =>
        rw [Bool.false_and, Bool.false_and, Bool.false_and]
        exact Ev.step (fun k => by rw [hhead, if_neg h0, if_pos (by omega), edge_is, Option.bind_some, he, if_neg Bool.false_ne_true]) (hnext true)
      | true =>
        rw [Bool.true_and]
        have hn := hnext (!edgeB (bt p ((p.size : Int) - 1)))
        have e : (if (!edgeB (bt p ((p.size : Int) - 1))) = true then false else allFrom p p.size 0 && (ps.drop (i + 1)).all pieceB) = (edgeB (bt p ((p.size : Int) - 1)) && allFrom p p.size 0 && (ps.drop (i + 1)).all pieceB) := by
          cases edgeB (bt p ((p.size : Int) - 1)) <;> simp
        rw [e] at hn
        exact Ev.step (fun k => by rw [hhead, if_neg h0, if_pos (by omega), edge_is, Option.bind_some, he, if_pos rfl, hw1, if_pos (by omega), if_pos (by omega), edge_is, Option.bind_some]) hn
theorem split_le (sep : ByteArray) (save : Nat) : ∀ (k : Nat) (s : ByteArray), ∀ p ∈ Lib.splitB sep save k s, p.size ≤ s.size
  | 0, s, p, hp => by rw [Lib.splitB_zero, List.mem_singleton] at hp; rw [hp]; exact Nat.le_refl _
  | k + 1, s, p, hp => by
    unfold Lib.splitB at hp
    split at hp
    · rw [List.mem_singleton] at hp; rw [hp]; exact Nat.le_refl _
    · rcases List.mem_cons.1 hp with hp | hp
      · rw [hp, ByteArray.size_extract]; omega
      · have := split_le sep save k _ p hp
        rw [ByteArray.size_extract] at this
        omega
theorem resource_ev (s : ByteArray) (hs : s.size < 4294967281) : Ev (fun k => quant_resource.f k s) (resP s) := by
  unfold resP
  by_cases h : 48 < s.size
  · rw [decide_eq_false (by omega), Bool.false_and]
    exact Ev.congr (f := fun _ => some false) (fun k => by unfold quant_resource.f; rw [if_pos (by omega)]) (Ev.now _)
  · rw [decide_eq_true (by omega), Bool.true_and]
    have hf : strings_Split.f s (⟨#[46]⟩ : ByteArray) = some (piecesOf s) := by unfold strings_Split.f; exact if_pos ⟨hs, by decide⟩
    have hc := Lib.countB_le (⟨#[46]⟩ : ByteArray) (by decide) s.size s (Nat.le_refl _)
    have hl : (piecesOf s).length = Lib.countB s (⟨#[46]⟩ : ByteArray) + 1 := Lib.splitB_all (⟨#[46]⟩ : ByteArray) (by decide) 0 _ s rfl
    have key := res_l0 (piecesOf s) (by omega) (fun p hp => by have := split_le _ _ _ s p hp; omega) (piecesOf s).length 0 (by omega)
    refine Ev.congr (fun k => ?_) key
    unfold quant_resource.f
    rw [if_neg (by omega), hf, Option.bind_some]
    rfl
theorem resP_size {s : ByteArray} (h : resP s = true) : s.size ≤ 48 := by
  unfold resP at h
  rw [Bool.and_eq_true, decide_eq_true_eq] at h
  exact h.1
def okPrev (p : Option ByteArray) (x : ByteArray) : Bool := match p with | none => true | some q => nless q x
theorem okPrev_none (x : ByteArray) : okPrev none x = true := rfl
theorem okPrev_some (q x : ByteArray) : okPrev (some q) x = nless q x := rfl
def stepV : Option ByteArray → List S57 → Bool
  | _, [] => true
  | p, a :: r => resP a.f0 && decide (0 ≤ a.f1) && okPrev p a.f0 && stepV (some a.f0) r
theorem stepV_cons (p : Option ByteArray) (a : S57) (r : List S57) : stepV p (a :: r) = (resP a.f0 && decide (0 ≤ a.f1) && okPrev p a.f0 && stepV (some a.f0) r) := rfl
def validB (l : List S57) : Bool := stepV none l
def validP (l : List S57) : Int := if 16 < l.length then 23 else if validB l = true then 0 else 31
def prevOf (l : List S57) (i : Nat) : Option ByteArray := if i = 0 then none else (l[i - 1]?).map (·.f0)
theorem less_toList (x y : ByteArray) : Op.bytesLess x.toList y.toList = nless x y := by rw [ByteArray.toList_eq, ByteArray.toList_eq]; rfl
theorem valid_l0 (l : List S57) (hl : l.length ≤ 1000000) (hs : ∀ a ∈ l, a.f0.size < 4294967281) : ∀ (m i : Nat), i + m = l.length → Ev (fun k => quant_Valid.l0 k l l (l.length : Int) (i : Int)) (if stepV (prevOf l i) (l.drop i) = true then 0 else 31) := by
  intro m
  induction m with
  | zero =>
    intro i hi
    rw [List.drop_eq_nil_of_le (by omega), stepV, if_pos rfl]
    refine Ev.step (f := fun _ => some 0) (fun k => ?_) (Ev.now _)
    simp only [quant_Valid.l0]
    rw [if_neg (by omega)]
  | succ m ih =>
    intro i hi
    have hil : i < l.length := by omega
    have key := ih (i + 1) (by omega)
    have hp1 : prevOf l (i + 1) = some (l[i]).f0 := by unfold prevOf; rw [if_neg (by omega), Nat.add_sub_cancel, List.getElem?_eq_getElem hil]; rfl
    have hre := resource_ev (l[i]).f0 (hs _ (List.getElem_mem hil))
    have hr0 := rd_get57 l i hil
    rw [hp1] at key
    rw [List.drop_eq_getElem_cons hil, stepV_cons]
    have hno : ∀ c : Bool, c = false → (if c = true then (0 : Int) else 31) = 31 := fun c h => by rw [h]; rfl
    refine Ev.step (f := fun k => (quant_resource.f k (l[i]).f0).bind fun t455 => (if t455 = true then (if (l[i]).f1 < 0 then (some 31) else (if (i : Int) > 0 then (if 0 ≤ (wrap64 ((i : Int) - 1)) then (if (wrap64 ((i : Int) - 1)) < (l.length : Int) then (if ((Op.bytesLess (((rd_T57 l (wrap64 ((i : Int) - 1))).f0).toList) (((l[i]).f0).toList)) = true) then (quant_Valid.l0 k l l (l.length : Int) (wrap64 ((i : Int) + 1))) else (some 31)) else (none)) else (none)) else (quant_Valid.l0 k l l (l.length : Int) (wrap64 ((i : Int) + 1))))) else (some 31))) (fun k => ?_) (Ev.bind hre ?_)
    · simp only [quant_Valid.l0]
      rw [if_pos (by omega), if_pos (by omega), if_pos (by omega), hr0]
    · cases hres : resP (l[i]).f0 with
      | false => exact Ev.congr (fun k => if_neg Bool.false_ne_true) (by rw [Bool.false_and, Bool.false_and, Bool.false_and]; exact Ev.now _)
      | true =>
        refine Ev.congr (fun k => if_pos rfl) ?_
        rw [Bool.true_and]
        by_cases hneg : (l[i]).f1 < 0
        · rw [decide_eq_false (by omega), Bool.false_and, Bool.false_and]
          exact Ev.congr (fun k => if_pos hneg) (Ev.now _)
        · rw [decide_eq_true (by omega), Bool.true_and]
          refine Ev.congr (fun k => if_neg hneg) ?_
          by_cases h0 : i = 0
          · have hp0 : prevOf l i = none := by unfold prevOf; rw [if_pos h0]
            rw [hp0, okPrev_none, Bool.true_and]
            refine Ev.congr (fun k => if_neg (by omega)) ?_
            rw [wl i (by omega)]
            exact key
          · have hp0 : prevOf l i = some (l[i - 1]'(by omega)).f0 := by unfold prevOf; rw [if_neg h0, List.getElem?_eq_getElem (by omega)]; rfl
            have hw1 : wrap64 ((i : Int) - 1) = ((i - 1 : Nat) : Int) := by unfold wrap64; omega
            rw [hp0]
            refine Ev.congr (fun k => if_pos (by omega)) ?_
            rw [hw1, rd_get57 l (i - 1) (by omega), less_toList, wl i (by omega)]
            refine Ev.congr (fun k => if_pos (by omega)) (Ev.congr (fun k => if_pos (by omega)) ?_)
            cases hlt : nless (l[i - 1]'(by omega)).f0 (l[i]).f0 with
            | true =>
              refine Ev.congr (fun k => if_pos rfl) ?_
              rw [okPrev_some, hlt, Bool.true_and]
              exact key
            | false =>
              refine Ev.congr (fun k => if_neg Bool.false_ne_true) ?_
              rw [okPrev_some, hlt, Bool.false_and]
              exact Ev.now _
theorem valid_ev (l : List S57) (hl : l.length ≤ 1048576) (hs : ∀ a ∈ l, a.f0.size < 4294967281) : Ev (fun k => quant_Valid.f k l) (validP l) := by
  unfold validP validB
  by_cases h : 16 < l.length
  · rw [if_pos h]
    exact Ev.congr (f := fun _ => some 23) (fun k => by unfold quant_Valid.f; rw [if_pos (by omega)]) (Ev.now _)
  · rw [if_neg h]
    have key := valid_l0 l (by omega) hs l.length 0 (by omega)
    rw [show prevOf l 0 = none from rfl, List.drop_zero] at key
    refine Ev.congr (fun k => ?_) key
    unfold quant_Valid.f
    rw [if_neg (by omega)]
    rfl
theorem both_ev (a b : List S57) (ha : a.length ≤ 1048576) (hb : b.length ≤ 1048576) (hsa : ∀ x ∈ a, x.f0.size < 4294967281) (hsb : ∀ x ∈ b, x.f0.size < 4294967281) : Ev (fun k => quant_valid.f k a b) (decide (validP a = 0) && decide (validP b = 0)) := by
  refine Ev.bind (valid_ev a ha hsa) ?_
  by_cases h : validP a = 0
  · rw [decide_eq_true h, Bool.true_and]
    refine Ev.congr (fun k => if_pos h) (Ev.bind (valid_ev b hb hsb) ?_)
    refine Ev.congr (f := fun _ => some (decide (validP b = 0))) (fun k => ?_) (Ev.now _)
    congr 1
  · rw [decide_eq_false h, Bool.false_and]
    exact Ev.congr (fun k => if_neg h) (Ev.now _)
theorem step_rises : ∀ (l : List S57) (p : Option ByteArray), stepV p l = true → Rises l ∧ (∀ y ∈ l, resP y.f0 = true ∧ 0 ≤ y.f1) ∧ (∀ q, p = some q → ∀ y ∈ l, nless q y.f0 = true)
  | [], p, _ => ⟨List.Pairwise.nil, by simp, by simp⟩
  | a :: r, p, h => by
    rw [stepV_cons, Bool.and_eq_true, Bool.and_eq_true, Bool.and_eq_true, decide_eq_true_eq] at h
    obtain ⟨⟨⟨h1, h2⟩, h3⟩, h4⟩ := h
    obtain ⟨i1, i2, i3⟩ := step_rises r (some a.f0) h4
    refine ⟨rises_cons.2 ⟨i3 _ rfl, i1⟩, fun y hy => ?_, fun q hq y hy => ?_⟩
    · rcases List.mem_cons.1 hy with rfl | hy
      · exact ⟨h1, h2⟩
      · exact i2 y hy
    · subst hq
      rcases List.mem_cons.1 hy with rfl | hy
      · exact h3
      · exact nless_trans h3 (i3 _ rfl y hy)
theorem rises_step : ∀ (l : List S57) (p : Option ByteArray), Rises l → (∀ y ∈ l, resP y.f0 = true ∧ 0 ≤ y.f1) → (∀ q, p = some q → ∀ y ∈ l, nless q y.f0 = true) → stepV p l = true
  | [], p, _, _, _ => rfl
  | a :: r, p, h1, h2, h3 => by
    obtain ⟨i1, i2⟩ := rises_cons.1 h1
    have ha := h2 a (by simp)
    rw [stepV_cons, Bool.and_eq_true, Bool.and_eq_true, Bool.and_eq_true, decide_eq_true_eq]
    refine ⟨⟨⟨ha.1, ha.2⟩, ?_⟩, rises_step r (some a.f0) i2 (fun y hy => h2 y (by simp [hy])) (fun q hq y hy => by cases hq; exact i1 y hy)⟩
    cases p with
    | none => rfl
    | some q => exact h3 q rfl a (by simp)
theorem valid_iff (l : List S57) : validP l = 0 ↔ l.length ≤ 16 ∧ Rises l ∧ ∀ y ∈ l, resP y.f0 = true ∧ 0 ≤ y.f1 := by
  unfold validP validB
  by_cases h : 16 < l.length
  · rw [if_pos h]
    exact ⟨fun e => by omega, fun e => by omega⟩
  · rw [if_neg h]
    cases hs : stepV none l with
    | true =>
      rw [if_pos rfl]
      have := step_rises l none hs
      exact ⟨fun _ => ⟨by omega, this.1, this.2.1⟩, fun _ => rfl⟩
    | false =>
      rw [if_neg Bool.false_ne_true]
      refine ⟨fun e => by omega, fun e => ?_⟩
      have := rises_step l none e.2.1 e.2.2 (fun q hq => by cases hq)
      rw [hs] at this
      cases this
end Go.Proofs.YtejgbdclhlolkaaGreatDoor.Q
namespace Go.Proofs.YtejgbdclhlolkaaGreatDoor.Q
open Go.RowKit Go.Lib Go.Proofs.YtejgbdclhlolkaaGreatDoorW.PrintWords Go.Proofs.YtejgbdclhlolkaaGreatDoorW.PrintLast
set_option linter.unusedVariables false
set_option linter.unusedSimpArgs false
def tot : List S57 → ByteArray → Int
  | [], _ => 0
  | a :: r, x => (if a.f0 = x then a.f1 else 0) + tot r x
theorem tot_nil (x : ByteArray) : tot [] x = 0 := rfl
theorem tot_cons (a : S57) (r : List S57) (x : ByteArray) : tot (a :: r) x = (if a.f0 = x then a.f1 else 0) + tot r x := rfl
theorem tot_append (l r : List S57) (x : ByteArray) : tot (l ++ r) x = tot l x + tot r x := by
  induction l with
  | nil => rw [List.nil_append, tot_nil]; omega
  | cons a l ih => rw [List.cons_append, tot_cons, tot_cons, ih]; omega
theorem tot_perm {l r : List S57} (h : l.Perm r) (x : ByteArray) : tot l x = tot r x := by
  induction h with
  | nil => rfl
  | cons a _ ih => rw [tot_cons, tot_cons, ih]
  | swap a b l => rw [tot_cons, tot_cons, tot_cons, tot_cons]; omega
  | trans _ _ ih1 ih2 => rw [ih1, ih2]
theorem tot_nonneg {l : List S57} (h : ∀ a ∈ l, 0 ≤ a.f1) (x : ByteArray) : 0 ≤ tot l x := by
  induction l with
  | nil => rw [tot_nil]; omega
  | cons a l ih =>
    rw [tot_cons]
    have h1 := h a (by simp)
    have h2 := ih (fun b hb => h b (by simp [hb]))
    split <;> omega
theorem named_iff (l : List S57) (x : ByteArray) : named l x = true ↔ ∃ y ∈ l, y.f0 = x := by
  unfold named
  rw [List.any_eq_true]
  exact ⟨fun ⟨y, h1, h2⟩ => ⟨y, h1, of_decide_eq_true h2⟩, fun ⟨y, h1, h2⟩ => ⟨y, h1, decide_eq_true h2⟩⟩
theorem named_cons (a : S57) (l : List S57) (x : ByteArray) : named (a :: l) x = true ↔ a.f0 = x ∨ named l x = true := by
  rw [named_iff, named_iff]
  constructor
  · rintro ⟨y, hy, e⟩
    rcases List.mem_cons.1 hy with rfl | hy
    · exact .inl e
    · exact .inr ⟨y, hy, e⟩
  · rintro (e | ⟨y, hy, e⟩)
    · exact ⟨a, by simp, e⟩
    · exact ⟨y, by simp [hy], e⟩
theorem named_perm {l r : List S57} (h : l.Perm r) (x : ByteArray) : named l x = true ↔ named r x = true := by
  rw [named_iff, named_iff]
  exact ⟨fun ⟨y, h1, h2⟩ => ⟨y, h.mem_iff.1 h1, h2⟩, fun ⟨y, h1, h2⟩ => ⟨y, h.mem_iff.2 h1, h2⟩⟩
theorem tot_none {l : List S57} {x : ByteArray} (h : ¬ named l x = true) : tot l x = 0 := by
  induction l with
  | nil => rfl
  | cons a l ih =>
    rw [named_cons] at h
    rw [tot_cons, if_neg (fun e => h (.inl e)), ih (fun e => h (.inr e))]
    rfl
theorem rises_nodup {L : List S57} (h : Rises L) : L.Nodup := List.Pairwise.imp (fun {x y} hxy e => by subst e; exact absurd (show nless x.f0 x.f0 = true from hxy) (by rw [nless_irrefl]; exact Bool.false_ne_true)) h
theorem rises_eq {L M : List S57} (h1 : Rises L) (h2 : Rises M) (h : ∀ y, y ∈ L ↔ y ∈ M) : L = M := by
  have hp : L.Perm M := (List.perm_ext_iff_of_nodup (rises_nodup h1) (rises_nodup h2)).2 h
  have p1 : L.Pairwise (fun a b : S57 => nless a.f0 b.f0 = true) := h1
  have p2 : M.Pairwise (fun a b : S57 => nless a.f0 b.f0 = true) := h2
  refine List.Perm.eq_of_pairwise (le := fun a b : S57 => nless a.f0 b.f0 = true) ?_ p1 p2 hp
  intro a b _ _ h3 h4
  exact absurd (nless_trans h3 h4) (by rw [nless_irrefl]; exact Bool.false_ne_true)
theorem val_ins {L : List S57} (h : Rises L) (x z : ByteArray) (v : Int) : valOf (insS L x v) z = if z = x then v else valOf L z := by
  have hr := rises_ins (x := x) (v := v) h
  by_cases e : z = x
  · rw [if_pos e, e]
    exact val_mem (y := ⟨x, v⟩) hr ((mem_ins h).2 (.inl rfl))
  · rw [if_neg e]
    by_cases hn : ∃ y ∈ L, y.f0 = z
    · obtain ⟨y, hy, rfl⟩ := hn
      rw [val_mem h hy, val_mem hr ((mem_ins h).2 (.inr ⟨hy, e⟩))]
    · rw [val_none (fun y hy e => hn ⟨y, hy, e⟩), val_none]
      intro y hy e2
      rcases (mem_ins h).1 hy with rfl | ⟨hy, _⟩
      · exact e e2.symm
      · exact hn ⟨y, hy, e2⟩
theorem val_ok {L : List S57} (h : Rises L) (hv : ∀ y ∈ L, 0 ≤ y.f1 ∧ y.f1 ≤ 9223372036854775807) (x : ByteArray) : 0 ≤ valOf L x ∧ valOf L x ≤ 9223372036854775807 := by
  by_cases hn : ∃ y ∈ L, y.f0 = x
  · obtain ⟨y, hy, rfl⟩ := hn
    rw [val_mem h hy]
    exact hv y hy
  · rw [val_none (fun y hy e => hn ⟨y, hy, e⟩)]
    omega
theorem addP_in {a v : Int} (ha : 0 ≤ a ∧ a ≤ 9223372036854775807) (hv : 0 ≤ v ∧ v ≤ 9223372036854775807) : addP a v = if 9223372036854775807 < a + v then (0, 7) else (a + v, 0) := by
  unfold addP
  have h : ¬ (a < 0 ∨ v < 0) := by omega
  have hw : wrap64 (9223372036854775807 - v) = 9223372036854775807 - v := by unfold wrap64; omega
  rw [if_neg h, hw]
  by_cases h2 : a > 9223372036854775807 - v
  · rw [if_pos h2, if_pos (by omega)]
  · rw [if_neg h2, if_neg (by omega)]
    have : wrap64 (a + v) = a + v := by unfold wrap64; omega
    rw [this]
theorem sumGo_cons (L : List S57) (a : S57) (r : List S57) : sumGo L (a :: r) = if (addP (valOf L a.f0) a.f1).2 = 0 then sumGo (insS L a.f0 (addP (valOf L a.f0) a.f1).1) r else .error (addP (valOf L a.f0) a.f1).2 := rfl
theorem sumGo_spec : ∀ (r L : List S57), Rises L → (∀ y ∈ L, 0 ≤ y.f1 ∧ y.f1 ≤ 9223372036854775807) → (∀ a ∈ r, 0 ≤ a.f1 ∧ a.f1 ≤ 9223372036854775807) →
    ((∀ x, valOf L x + tot r x ≤ 9223372036854775807) ∧ ∃ M, sumGo L r = .ok M ∧ Rises M ∧ ∀ y, y ∈ M ↔ (named L y.f0 = true ∨ named r y.f0 = true) ∧ y.f1 = valOf L y.f0 + tot r y.f0) ∨
    ((∃ x, 9223372036854775807 < valOf L x + tot r x) ∧ sumGo L r = .error 7) := by
  intro r
  induction r with
  | nil =>
    intro L hL hv _
    refine .inl ⟨fun x => by rw [tot_nil]; have := (val_ok hL hv x).2; omega, L, rfl, hL, fun y => ?_⟩
    rw [tot_nil, Int.add_zero, named_iff]
    constructor
    · intro hy
      exact ⟨.inl ⟨y, hy, rfl⟩, (val_mem hL hy).symm⟩
    · rintro ⟨⟨z, hz, e⟩ | h, h2⟩
      · have h3 := val_mem hL hz
        rw [e, ← h2] at h3
        have : y = z := by cases y; cases z; simp only at e h3; subst e; rw [h3]
        rw [this]; exact hz
      · simp [named] at h
  | cons a r ih =>
    intro L hL hv hr
    have ha := hr a (by simp)
    have hr' : ∀ b ∈ r, 0 ≤ b.f1 ∧ b.f1 ≤ 9223372036854775807 := fun b hb => hr b (by simp [hb])
    have h0 := val_ok hL hv a.f0
    have htn := tot_nonneg (l := r) (fun b hb => (hr' b hb).1)
    rw [sumGo_cons, addP_in h0 ha]
    by_cases hov : 9223372036854775807 < valOf L a.f0 + a.f1
    · rw [if_pos hov, if_neg (show ¬ ((7 : Int) = 0) by omega)]
      refine .inr ⟨⟨a.f0, ?_⟩, rfl⟩
      rw [tot_cons, if_pos rfl]
      have := htn a.f0
      omega
    · rw [if_neg hov, if_pos rfl]
      have key := ih (insS L a.f0 (valOf L a.f0 + a.f1)) (rises_ins hL) (fun y hy => by
        rcases (mem_ins hL).1 hy with rfl | ⟨hy, _⟩
        · exact ⟨by show 0 ≤ valOf L a.f0 + a.f1; omega, by show valOf L a.f0 + a.f1 ≤ _; omega⟩
        · exact hv y hy) hr'
      have hsame : ∀ x, valOf (insS L a.f0 (valOf L a.f0 + a.f1)) x + tot r x = valOf L x + tot (a :: r) x := by
        intro x
        rw [val_ins hL, tot_cons]
        by_cases e : x = a.f0
        · rw [if_pos e, if_pos e.symm, e]; omega
        · rw [if_neg e, if_neg (fun h => e h.symm)]; omega
      rcases key with ⟨h1, M, hM, hR, hmem⟩ | ⟨⟨x, hx⟩, hE⟩
      · refine .inl ⟨fun x => by rw [← hsame]; exact h1 x, M, hM, hR, fun y => ?_⟩
        rw [hmem, hsame, named_cons]
        have hn : named (insS L a.f0 (valOf L a.f0 + a.f1)) y.f0 = true ↔ named L y.f0 = true ∨ a.f0 = y.f0 := by
          rw [named_iff, named_iff]
          constructor
          · rintro ⟨z, hz, e⟩
            rcases (mem_ins hL).1 hz with rfl | ⟨hz, _⟩
            · exact .inr e
            · exact .inl ⟨z, hz, e⟩
          · rintro (⟨z, hz, e⟩ | e)
            · by_cases ez : z.f0 = a.f0
              · exact ⟨⟨a.f0, _⟩, (mem_ins hL).2 (.inl rfl), by rw [← e, ez]⟩
              · exact ⟨z, (mem_ins hL).2 (.inr ⟨hz, ez⟩), e⟩
            · exact ⟨⟨a.f0, _⟩, (mem_ins hL).2 (.inl rfl), e⟩
        rw [hn]
        constructor
        · rintro ⟨(h | h) | h, h2⟩
          · exact ⟨.inl h, h2⟩
          · exact ⟨.inr (.inl h), h2⟩
          · exact ⟨.inr (.inr h), h2⟩
        · rintro ⟨h | h | h, h2⟩
          · exact ⟨.inl (.inl h), h2⟩
          · exact ⟨.inl (.inr h), h2⟩
          · exact ⟨.inr h, h2⟩
      · exact .inr ⟨⟨x, by rw [← hsame]; exact hx⟩, hE⟩
def Canon (l M : List S57) : Prop := Rises M ∧ ∀ y, y ∈ M ↔ named l y.f0 = true ∧ y.f1 = tot l y.f0
theorem canon_unique {l M M' : List S57} (h : Canon l M) (h' : Canon l M') : M = M' := rises_eq h.1 h'.1 (fun y => (h.2 y).trans (h'.2 y).symm)
theorem canon_perm {l r M : List S57} (hp : l.Perm r) (h : Canon l M) : Canon r M := ⟨h.1, fun y => by rw [h.2, named_perm hp, tot_perm hp]⟩
def InV (l : List S57) : Prop := ∀ a ∈ l, 0 ≤ a.f1 ∧ a.f1 ≤ 9223372036854775807
theorem summed_spec (ls : List (List S57)) (h : InV ls.flatten) :
    ((∀ x, tot ls.flatten x ≤ 9223372036854775807) ∧ ∃ M, Canon ls.flatten M ∧ quant_summed.f ls = if M.length > 16 then ([], 23) else (M, 0)) ∨
    ((∃ x, 9223372036854775807 < tot ls.flatten x) ∧ quant_summed.f ls = ([], 7)) := by
  rcases sumGo_spec ls.flatten [] List.Pairwise.nil (fun y hy => by simp at hy) h with ⟨h1, M, hM, hR, hmem⟩ | ⟨⟨x, hx⟩, hE⟩
  · refine .inl ⟨fun x => by have := h1 x; simp only [valOf] at this; omega, M, ⟨hR, fun y => ?_⟩, ?_⟩
    · rw [hmem]
      simp only [valOf, Int.zero_add]
      constructor
      · rintro ⟨h | h, h2⟩
        · simp [named] at h
        · exact ⟨h, h2⟩
      · rintro ⟨h, h2⟩
        exact ⟨.inr h, h2⟩
    · unfold quant_summed.f
      rw [hM]
      rfl
  · refine .inr ⟨⟨x, by simp only [valOf] at hx; omega⟩, ?_⟩
    unfold quant_summed.f
    rw [hE]
theorem tot_rises {l : List S57} (h : Rises l) (x : ByteArray) : tot l x = valOf l x := by
  induction l with
  | nil => rfl
  | cons a l ih =>
    obtain ⟨h1, h2⟩ := rises_cons.1 h
    rw [tot_cons]
    unfold valOf
    by_cases e : a.f0 = x
    · rw [if_pos e, if_pos e, tot_none]
      · omega
      · rw [named_iff]
        rintro ⟨y, hy, e2⟩
        have := h1 y hy
        rw [e2, e, nless_irrefl] at this
        cases this
    · rw [if_neg e, if_neg e, ih h2]
      omega
end Go.Proofs.YtejgbdclhlolkaaGreatDoor.Q
namespace Go.Proofs.YtejgbdclhlolkaaGreatDoor.Q
open Go.RowKit Go.Lib Go.Proofs.YtejgbdclhlolkaaGreatDoorW.PrintWords Go.Proofs.YtejgbdclhlolkaaGreatDoorW.PrintLast
set_option linter.unusedVariables false
set_option linter.unusedSimpArgs false
def Fit (l : List S57) : Prop := l.length ≤ 1048576 ∧ (∀ a ∈ l, a.f0.size < 4294967281) ∧ ∀ a ∈ l, -9223372036854775808 ≤ a.f1 ∧ a.f1 ≤ 9223372036854775807
theorem Fit.nil : Fit [] := ⟨by decide, fun a ha => (by simp at ha), fun a ha => (by simp at ha)⟩
def okP (a b : List S57) : Bool := decide (validP a = 0) && decide (validP b = 0)
theorem okP_iff (a b : List S57) : okP a b = true ↔ validP a = 0 ∧ validP b = 0 := by unfold okP; rw [Bool.and_eq_true, decide_eq_true_eq, decide_eq_true_eq]
theorem ok_ev {a b : List S57} (ha : Fit a) (hb : Fit b) : Ev (fun k => quant_valid.f k a b) (okP a b) := both_ev a b ha.1 hb.1 ha.2.1 hb.2.1
theorem valid_in {l : List S57} (h : validP l = 0) (hl : Fit l) : InV l := fun a ha => ⟨(((valid_iff l).1 h).2.2 a ha).2, (hl.2.2 a ha).2⟩
theorem valid_names {l : List S57} (h : validP l = 0) : ∀ a ∈ l, a.f0.size ≤ 48 := fun a ha => resP_size (((valid_iff l).1 h).2.2 a ha).1
theorem fit_valid {l : List S57} (h : validP l = 0) (hv : ∀ a ∈ l, a.f1 ≤ 9223372036854775807) : Fit l :=
  ⟨by have := ((valid_iff l).1 h).1; omega, fun a ha => by have := valid_names h a ha; omega, fun a ha => ⟨by have := (((valid_iff l).1 h).2.2 a ha).2; omega, hv a ha⟩⟩
def plusP (a b : List S57) : List S57 × Int := if okP a b = true then quant_summed.f [a, b] else ([], 31)
theorem flat2 (a b : List S57) : [a, b].flatten = a ++ b := by simp
theorem plus_evL {a b : List S57} (ha : Fit a) (hb : Fit b) : Ev (fun k => quant_Plus.f k a b) (plusP a b) := by
  refine Ev.bind (ok_ev ha hb) ?_
  unfold plusP
  cases h : okP a b with
  | false => exact Ev.congr (fun k => if_neg Bool.false_ne_true) (Ev.now _)
  | true =>
    obtain ⟨h1, h2⟩ := (okP_iff a b).1 h
    have hok : sumOK [a, b] = true := by
      unfold sumOK
      rw [Bool.and_eq_true, decide_eq_true_eq, List.all_eq_true]
      refine ⟨fun r hr => ?_, ?_⟩
      · rw [List.all_eq_true]
        intro x hx
        rcases List.mem_cons.1 hr with rfl | hr
        · exact decide_eq_true (valid_names h1 x hx)
        · rw [List.mem_singleton] at hr; subst hr; exact decide_eq_true (valid_names h2 x hx)
      · rw [flat2, List.length_append]
        have := ha.1
        have := hb.1
        omega
    exact Ev.congr (fun k => if_pos rfl) (Ev.congr (fun k => if_pos hok) (Ev.now _))
theorem inv_app {a b : List S57} (ha : InV a) (hb : InV b) : InV (a ++ b) := fun x hx => (List.mem_append.1 hx).elim (ha x) (hb x)
theorem named_app (a b : List S57) (x : ByteArray) : named (a ++ b) x = true ↔ named a x = true ∨ named b x = true := by
  rw [named_iff, named_iff, named_iff]
  constructor
  · rintro ⟨y, hy, e⟩
    exact (List.mem_append.1 hy).elim (fun h => .inl ⟨y, h, e⟩) (fun h => .inr ⟨y, h, e⟩)
  · rintro (⟨y, hy, e⟩ | ⟨y, hy, e⟩)
    · exact ⟨y, List.mem_append.2 (.inl hy), e⟩
    · exact ⟨y, List.mem_append.2 (.inr hy), e⟩
theorem plus_comm {a b : List S57} (ha : Fit a) (hb : Fit b) : plusP a b = plusP b a := by
  unfold plusP
  have e : okP b a = okP a b := by unfold okP; rw [Bool.and_comm]
  rw [e]
  cases h : okP a b with
  | false => rfl
  | true =>
    rw [if_pos rfl, if_pos rfl]
    obtain ⟨h1, h2⟩ := (okP_iff a b).1 h
    have i1 := inv_app (valid_in h1 ha) (valid_in h2 hb)
    have i2 := inv_app (valid_in h2 hb) (valid_in h1 ha)
    have hp : (a ++ b).Perm (b ++ a) := List.perm_append_comm
    have s1 := summed_spec [a, b] (by rw [flat2]; exact i1)
    have s2 := summed_spec [b, a] (by rw [flat2]; exact i2)
    rw [flat2] at s1 s2
    rcases s1 with ⟨t1, M, hM, e1⟩ | ⟨⟨x, hx⟩, e1⟩
    · rcases s2 with ⟨_, M', hM', e2⟩ | ⟨⟨x, hx⟩, _⟩
      · rw [e1, e2, canon_unique (canon_perm hp hM) hM']
      · have := t1 x; rw [tot_perm hp] at this; omega
    · rcases s2 with ⟨t2, _⟩ | ⟨_, e2⟩
      · have := t2 x; rw [← tot_perm hp] at this; omega
      · rw [e1, e2]
theorem plus_cases {a b : List S57} (ha : Fit a) (hb : Fit b) (h1 : validP a = 0) (h2 : validP b = 0) :
    (plusP a b = ([], 7) ∨ plusP a b = ([], 23)) ∨ ∃ M, plusP a b = (M, 0) ∧ Canon (a ++ b) M ∧ validP M = 0 ∧ Fit M ∧ ∀ x, tot (a ++ b) x ≤ 9223372036854775807 := by
  have i1 := inv_app (valid_in h1 ha) (valid_in h2 hb)
  have s1 := summed_spec [a, b] (by rw [flat2]; exact i1)
  rw [flat2] at s1
  unfold plusP
  rw [if_pos ((okP_iff a b).2 ⟨h1, h2⟩)]
  rcases s1 with ⟨t1, M, hM, e1⟩ | ⟨_, e1⟩
  · by_cases h16 : M.length > 16
    · rw [e1, if_pos h16]; exact .inl (.inr rfl)
    · rw [e1, if_neg h16]
      have hpos := tot_nonneg (l := a ++ b) (fun x hx => (i1 x hx).1)
      have hv : ∀ y ∈ M, y.f1 ≤ 9223372036854775807 := fun y hy => by rw [((hM.2 y).1 hy).2]; exact t1 _
      have hV : validP M = 0 := (valid_iff M).2 ⟨by omega, hM.1, fun y hy => by
        obtain ⟨n1, n2⟩ := (hM.2 y).1 hy
        obtain ⟨z, hz, ez⟩ := (named_iff _ y.f0).1 n1
        refine ⟨?_, by rw [n2]; exact hpos _⟩
        rw [← ez]
        exact (List.mem_append.1 hz).elim (fun h => (((valid_iff a).1 h1).2.2 z h).1) (fun h => (((valid_iff b).1 h2).2.2 z h).1)⟩
      exact .inr ⟨M, rfl, hM, hV, fit_valid hV hv, t1⟩
  · rw [e1]; exact .inl (.inl rfl)
theorem tot_canon {l M : List S57} (h : Canon l M) (x : ByteArray) : tot M x = tot l x := by
  rw [tot_rises h.1]
  by_cases hn : named l x = true
  · have hy : (⟨x, tot l x⟩ : S57) ∈ M := (h.2 ⟨x, tot l x⟩).2 ⟨hn, rfl⟩
    exact val_mem h.1 hy
  · rw [tot_none hn, val_none]
    intro y hy e
    exact hn (e ▸ ((h.2 y).1 hy).1)
theorem named_canon {l M : List S57} (h : Canon l M) (x : ByteArray) : named M x = true ↔ named l x = true := by
  constructor
  · intro hn
    obtain ⟨y, hy, e⟩ := (named_iff M x).1 hn
    rw [← e]
    exact ((h.2 y).1 hy).1
  · intro hn
    exact (named_iff M x).2 ⟨⟨x, tot l x⟩, (h.2 _).2 ⟨hn, rfl⟩, rfl⟩
theorem minA_cons (L : List S57) (a : S57) (r : List S57) : minA L (a :: r) = minA (insS L a.f0 a.f1) r := rfl
theorem minA_spec : ∀ (a L : List S57), Rises a → Rises L → Rises (minA L a) ∧ ∀ y, y ∈ minA L a ↔ y ∈ a ∨ (y ∈ L ∧ ¬ named a y.f0 = true)
  | [], L, _, hL => ⟨hL, fun y => by simp [minA, named]⟩
  | x :: a, L, ha, hL => by
    obtain ⟨h1, h2⟩ := rises_cons.1 ha
    obtain ⟨i1, i2⟩ := minA_spec a (insS L x.f0 x.f1) h2 (rises_ins hL)
    rw [minA_cons]
    refine ⟨i1, fun y => ?_⟩
    have hx : ¬ named a x.f0 = true := by
      rw [named_iff]
      rintro ⟨z, hz, e⟩
      have := h1 z hz
      rw [e, nless_irrefl] at this
      cases this
    rw [i2, mem_ins hL, named_cons, List.mem_cons]
    constructor
    · rintro (h | ⟨h | ⟨h, h3⟩, h4⟩)
      · exact .inl (.inr h)
      · exact .inl (.inl h)
      · exact .inr ⟨h, fun h5 => h5.elim (fun e => h3 e.symm) h4⟩
    · rintro ((h | h) | ⟨h, h3⟩)
      · exact .inr ⟨.inl h, by rw [h]; exact hx⟩
      · exact .inl h
      · exact .inr ⟨.inr ⟨h, fun e => h3 (.inl e.symm)⟩, fun h4 => h3 (.inr h4)⟩
theorem minA_self {a : List S57} (h : Rises a) : minA [] a = a := by
  obtain ⟨h1, h2⟩ := minA_spec a [] h List.Pairwise.nil
  exact rises_eq h1 h (fun y => by rw [h2]; simp)
theorem minB_cons (L : List S57) (x : S57) (r : List S57) : minB L (x :: r) = if valOf L x.f0 < x.f1 then none else minB (insS L x.f0 (wrap64 (valOf L x.f0 - x.f1))) r := rfl
theorem minB_spec : ∀ (b L : List S57), Rises b → InV b → Rises L → InV L →
    ((∃ x ∈ b, valOf L x.f0 < x.f1) ∧ minB L b = none) ∨
    ((∀ x ∈ b, x.f1 ≤ valOf L x.f0) ∧ ∃ M, minB L b = some M ∧ Rises M ∧ ∀ y, y ∈ M ↔ (named L y.f0 = true ∨ named b y.f0 = true) ∧ y.f1 = valOf L y.f0 - valOf b y.f0)
  | [], L, _, _, hL, hv => by
    refine .inr ⟨fun x hx => (by simp at hx), L, rfl, hL, fun y => ?_⟩
    simp only [valOf, Int.sub_zero, named, List.any_nil, Bool.false_eq_true, or_false]
    constructor
    · intro hy
      exact ⟨(named_iff L y.f0).2 ⟨y, hy, rfl⟩, (val_mem hL hy).symm⟩
    · rintro ⟨h, h2⟩
      obtain ⟨z, hz, e⟩ := (named_iff L y.f0).1 h
      have h3 := val_mem hL hz
      rw [e, ← h2] at h3
      have : y = z := by cases y; cases z; simp only at e h3; subst e; rw [h3]
      rw [this]; exact hz
  | x :: b, L, hb, hvb, hL, hv => by
    obtain ⟨h1, h2⟩ := rises_cons.1 hb
    have hx := hvb x (by simp)
    have hvx := val_ok hL hv x.f0
    have hxb : ¬ named b x.f0 = true := by
      rw [named_iff]
      rintro ⟨z, hz, e⟩
      have := h1 z hz
      rw [e, nless_irrefl] at this
      cases this
    rw [minB_cons]
    by_cases hlt : valOf L x.f0 < x.f1
    · rw [if_pos hlt]
      exact .inl ⟨⟨x, by simp, hlt⟩, rfl⟩
    · rw [if_neg hlt]
      have hw : wrap64 (valOf L x.f0 - x.f1) = valOf L x.f0 - x.f1 := by unfold wrap64; omega
      rw [hw]
      clear hw
      have hL1 := rises_ins (x := x.f0) (v := valOf L x.f0 - x.f1) hL
      have hv1 : InV (insS L x.f0 (valOf L x.f0 - x.f1)) := fun y hy => by
        rcases (mem_ins hL).1 hy with rfl | ⟨hy, _⟩
        · exact ⟨by show 0 ≤ valOf L x.f0 - x.f1; omega, by show valOf L x.f0 - x.f1 ≤ _; omega⟩
        · exact hv y hy
      have hval : ∀ z ∈ b, valOf (insS L x.f0 (valOf L x.f0 - x.f1)) z.f0 = valOf L z.f0 := fun z hz => by
        rw [val_ins hL, if_neg]
        intro e
        exact hxb ((named_iff b x.f0).2 ⟨z, hz, e⟩)
      rcases minB_spec b _ h2 (fun y hy => hvb y (by simp [hy])) hL1 hv1 with ⟨⟨z, hz, hzl⟩, hE⟩ | ⟨hall, M, hE, hR, hmem⟩
      · refine .inl ⟨⟨z, by simp [hz], by rw [← hval z hz]; exact hzl⟩, hE⟩
      · refine .inr ⟨fun z hz => ?_, M, hE, hR, fun y => ?_⟩
        · rcases List.mem_cons.1 hz with rfl | hz
          · omega
          · rw [← hval z hz]; exact hall z hz
        · rw [hmem, val_ins hL, named_cons]
          have hn : named (insS L x.f0 (valOf L x.f0 - x.f1)) y.f0 = true ↔ named L y.f0 = true ∨ x.f0 = y.f0 := by
            rw [named_iff, named_iff]
            constructor
            · rintro ⟨z, hz, e⟩
              rcases (mem_ins hL).1 hz with rfl | ⟨hz, _⟩
              · exact .inr e
              · exact .inl ⟨z, hz, e⟩
            · rintro (⟨z, hz, e⟩ | e)
              · by_cases ez : z.f0 = x.f0
                · exact ⟨⟨x.f0, _⟩, (mem_ins hL).2 (.inl rfl), by rw [← e, ez]⟩
                · exact ⟨z, (mem_ins hL).2 (.inr ⟨hz, ez⟩), e⟩
              · exact ⟨⟨x.f0, _⟩, (mem_ins hL).2 (.inl rfl), e⟩
          have hvb2 : (if y.f0 = x.f0 then valOf L x.f0 - x.f1 else valOf L y.f0) - valOf b y.f0 = valOf L y.f0 - valOf (x :: b) y.f0 := by
            have e0 : valOf (x :: b) y.f0 = if x.f0 = y.f0 then x.f1 else valOf b y.f0 := rfl
            rw [e0]
            by_cases e : y.f0 = x.f0
            · rw [if_pos e, if_pos e.symm, e, val_none (L := b)]
              · omega
              · intro z hz e2
                exact hxb ((named_iff b x.f0).2 ⟨z, hz, e2⟩)
            · rw [if_neg e, if_neg (fun h => e h.symm)]
          rw [hn, hvb2]
          constructor
          · rintro ⟨(h | h) | h, h3⟩
            · exact ⟨.inl h, h3⟩
            · exact ⟨.inr (.inl h), h3⟩
            · exact ⟨.inr (.inr h), h3⟩
          · rintro ⟨h | h | h, h3⟩
            · exact ⟨.inl (.inl h), h3⟩
            · exact ⟨.inl (.inr h), h3⟩
            · exact ⟨.inr h, h3⟩
def minusP (a b : List S57) : List S57 × Int := if okP a b = true then minP a b else ([], 31)
theorem minus_evL {a b : List S57} (ha : Fit a) (hb : Fit b) : Ev (fun k => quant_Minus.f k a b) (minusP a b) := by
  refine Ev.bind (ok_ev ha hb) ?_
  unfold minusP
  cases h : okP a b with
  | false => exact Ev.congr (fun k => if_neg Bool.false_ne_true) (Ev.now _)
  | true =>
    obtain ⟨h1, h2⟩ := (okP_iff a b).1 h
    have hok : minOK a b = true := by
      unfold minOK
      rw [Bool.and_eq_true, Bool.and_eq_true, decide_eq_true_eq, List.all_eq_true, List.all_eq_true]
      refine ⟨⟨fun x hx => ?_, fun x hx => decide_eq_true (valid_names h2 x hx)⟩, ?_⟩
      · have hr := ha.2.2 x hx
        rw [Bool.and_eq_true, Bool.and_eq_true, decide_eq_true_eq, decide_eq_true_eq, decide_eq_true_eq]
        exact ⟨⟨valid_names h1 x hx, hr.1⟩, hr.2⟩
      · have := ha.1
        have := hb.1
        omega
    exact Ev.congr (fun k => if_pos rfl) (Ev.congr (fun k => if_pos hok) (Ev.now _))
theorem minus_cases {a b : List S57} (ha : Fit a) (hb : Fit b) (h1 : validP a = 0) (h2 : validP b = 0) :
    ((∃ x ∈ b, valOf a x.f0 < x.f1) ∧ minusP a b = ([], 1)) ∨
    ((∀ x ∈ b, x.f1 ≤ valOf a x.f0) ∧ ∃ M, minusP a b = (if M.length > 16 then ([], 23) else (M, 0)) ∧ Rises M ∧ ∀ y, y ∈ M ↔ (named a y.f0 = true ∨ named b y.f0 = true) ∧ y.f1 = valOf a y.f0 - valOf b y.f0) := by
  have r1 := ((valid_iff a).1 h1).2.1
  have r2 := ((valid_iff b).1 h2).2.1
  unfold minusP minP
  rw [if_pos ((okP_iff a b).2 ⟨h1, h2⟩), minA_self r1]
  rcases minB_spec b a r2 (valid_in h2 hb) r1 (valid_in h1 ha) with ⟨hx, hE⟩ | ⟨hall, M, hE, hR, hmem⟩
  · rw [hE]; exact .inl ⟨hx, rfl⟩
  · rw [hE]; exact .inr ⟨hall, M, rfl, hR, hmem⟩
theorem of_val (x : ByteArray) : ∀ l : List S57, (ofL x l).1 = valOf l x
  | [] => rfl
  | a :: l => by
    unfold ofL valOf
    by_cases e : a.f0 = x
    · rw [if_pos e, if_pos e]
    · rw [if_neg e, if_neg e, of_val x l]
def firstOver (l : List S57) : List S57 → ByteArray
  | [] => ⟨#[]⟩
  | a :: r => if valOf l a.f0 > a.f1 then a.f0 else firstOver l r
def withinP (l m : List S57) : ByteArray × Int := if okP l m = true then (firstOver l m, 0) else (⟨#[]⟩, 31)
theorem within_l0 (l m : List S57) (hl : l.length ≤ 1048576) (hm : m.length ≤ 1048576) : ∀ (n i : Nat), i + n = m.length → Ev (fun k => quant_Within.l0 k l m (m.length : Int) (i : Int)) (firstOver l (m.drop i), 0) := by
  intro n
  induction n with
  | zero =>
    intro i hi
    rw [List.drop_eq_nil_of_le (by omega)]
    exact Ev.step (f := fun _ => some (⟨#[]⟩, 0)) (fun k => by simp only [quant_Within.l0]; rw [if_neg (by omega)]) (Ev.now _)
  | succ n ih =>
    intro i hi
    have him : i < m.length := by omega
    have key := ih (i + 1) (by omega)
    have e : firstOver l (m.drop i) = if valOf l (m[i]).f0 > (m[i]).f1 then (m[i]).f0 else firstOver l (m.drop (i + 1)) := by rw [List.drop_eq_getElem_cons him]; rfl
    rw [e]
    refine Ev.step (f := fun k => (quant_Of.f k l (m[i]).f0).bind fun bt551 => (if bt551.1 > (m[i]).f1 then (some ((m[i]).f0, 0)) else (quant_Within.l0 k l m (m.length : Int) ((i + 1 : Nat) : Int)))) (fun k => ?_) (Ev.bind (of_ev (m[i]).f0 l (by omega)) ?_)
    · simp only [quant_Within.l0]
      rw [if_pos (by omega), if_pos (by omega), if_pos (by omega), rd_get57 m i him, wl i (by omega)]
    · rw [of_val]
      by_cases h : valOf l (m[i]).f0 > (m[i]).f1
      · rw [if_pos h]
        exact Ev.congr (fun k => if_pos h) (Ev.now _)
      · rw [if_neg h]
        exact Ev.congr (fun k => if_neg h) key
theorem within_evL {a b : List S57} (ha : Fit a) (hb : Fit b) : Ev (fun k => quant_Within.f k a b) (withinP a b) := by
  refine Ev.bind (ok_ev ha hb) ?_
  unfold withinP
  cases h : okP a b with
  | false => exact Ev.congr (fun k => if_neg Bool.false_ne_true) (Ev.now _)
  | true => exact Ev.congr (fun k => if_pos rfl) (within_l0 a b ha.1 hb.1 b.length 0 (by omega))
theorem resP_ne {s : ByteArray} (h : resP s = true) : s.toList ≠ ([] : List UInt8) := by
  intro e
  rw [empty_iffR] at e
  have : s = ⟨#[]⟩ := by
    cases s with
    | mk d =>
      have : d.size = 0 := e
      rw [Array.size_eq_zero_iff.1 this]
  rw [this] at h
  exact absurd h (by decide +kernel)
theorem over_none (l : List S57) : ∀ m : List S57, (∀ y ∈ m, resP y.f0 = true) → ((firstOver l m).toList = ([] : List UInt8) ↔ ∀ y ∈ m, valOf l y.f0 ≤ y.f1)
  | [], _ => by
    have : (firstOver l []).toList = ([] : List UInt8) := (empty_iffR _).2 rfl
    simp [this]
  | a :: m, h => by
    have ih := over_none l m (fun y hy => h y (by simp [hy]))
    unfold firstOver
    by_cases hgt : valOf l a.f0 > a.f1
    · rw [if_pos hgt]
      refine ⟨fun e => absurd e (resP_ne (h a (by simp))), fun hh => ?_⟩
      have := hh a (by simp)
      omega
    · rw [if_neg hgt, ih]
      constructor
      · intro hh y hy
        rcases List.mem_cons.1 hy with rfl | hy
        · omega
        · exact hh y hy
      · intro hh y hy
        exact hh y (by simp [hy])
end Go.Proofs.YtejgbdclhlolkaaGreatDoor.Q
namespace Go.Proofs.YtejgbdclhlolkaaGreatDoor.Q
open Go.RowKit Go.Proofs.YtejgbdclhlolkaaGreatDoorW.PrintWords Go.Proofs.YtejgbdclhlolkaaGreatDoorW.PrintLast Go.ChangeShapes
set_option linter.unusedVariables false
set_option linter.unusedSimpArgs false
section
variable {H : Type} (enc : TypeId × Value → H) (P : Program) (w : World) (base : Nat) (spare : Nat → Bool) (held : Bool)
def Opens (t : TypeId) {α : Type} (d : Kd α) (Rel : DataW H → α → Prop) : Prop :=
  ∀ (fuel : Nat) (cs : List Value) (x : DataW H × List MemPlace), DataW.trod enc P w base spare held fuel t cs = some x → ∃ a, d.K w a cs ∧ Rel x.1 a
def OpensFs {α : Type} (off : Nat) (fs : List Field) (d : Kd α) (Rel : List (DataW H) → α → Prop) : Prop :=
  ∀ (n : Nat) (cs : List Value) (xs : List (DataW H × List MemPlace)), xs.length = fs.length → cs.length = off + d.sz →
    (∀ (i : Nat) (f : Field), fs[i]? = some f → DataW.trod enc P w base spare held n f.type ((cs.drop f.offset).take (P.cellsOf f.type)) = xs[i]?) → ∃ a, d.K w a (cs.drop off) ∧ Rel (xs.map (·.1)) a
variable {enc : TypeId × Value → H} {P : Program} {w : World} {base : Nat} {spare : Nat → Bool} {held : Bool}
theorem opens_string {t : TypeId} (ht : P.underlying t = some .string) : Opens enc P w base spare held t Kd.string (fun x (s : ByteArray) => x = .lit (.string s.data.toList) ∧ s.size ≤ maxLen) := by
  intro fuel cs x h
  obtain ⟨s, rfl, rfl, hs⟩ := DataW.trod_string ht h
  exact ⟨s, rfl, rfl, hs⟩
theorem opens_int {t : TypeId} {k : IntKind} (ht : P.underlying t = some (.int k)) : Opens enc P w base spare held t (Kd.int k) (fun x (n : Int) => x = .lit (.int k n) ∧ (Lit.int k n).wf = true) := by
  intro fuel cs x h
  obtain ⟨s, rfl, rfl, hs⟩ := DataW.trod_int ht h
  exact ⟨s, rfl, rfl, hs⟩
theorem list_of {α : Type} {p : Nat → α → Prop} : ∀ n : Nat, (∀ i, i < n → ∃ x, p i x) → ∃ l : List α, l.length = n ∧ ∀ i x, l[i]? = some x → p i x
  | 0, _ => ⟨[], rfl, fun i x h => by simp at h⟩
  | n + 1, h => by
    obtain ⟨l, hl, hp⟩ := list_of n (fun i hi => h i (by omega))
    obtain ⟨x, hx⟩ := h n (by omega)
    refine ⟨l ++ [x], by simp [hl], fun i y hy => ?_⟩
    rcases Nat.lt_trichotomy i n with h1 | h1 | h1
    · rw [List.getElem?_append_left (by omega)] at hy; exact hp i y hy
    · subst h1
      rw [List.getElem?_append_right (by omega), hl, Nat.sub_self] at hy
      simp at hy
      exact hy ▸ hx
    · rw [List.getElem?_eq_none (by simp; omega)] at hy; cases hy
def RowD {H : Type} {α : Type} (Rel : DataW H → α → Prop) (x : DataW H) (l : List α) : Prop :=
  (x = .nil ∧ l = []) ∨ ∃ es r, x = .slice es r ∧ es.length = l.length ∧ ∀ (i : Nat) e a, es[i]? = some e → l[i]? = some a → Rel e a
theorem opens_slice {t e : TypeId} {α : Type} {d : Kd α} {Rel : DataW H → α → Prop} (e' : Nat) (ht : P.underlying t = some (.slice e)) (hc : P.cellsOf e = d.sz) (h : Opens enc P w base spare held e d Rel) :
    Opens enc P w base spare held t (Kd.slice e' d) (fun x l => RowD Rel x l ∧ l.length ≤ maxLen) := by
  intro fuel cs x hx
  have h63 : maxLen ≤ 9223372036854775807 := by decide
  rcases Go.Deep.open_slice ht hx with ⟨rfl, rfl⟩ | ⟨a, len, cap, m, n, D, Pl, rfl, hb, hl, hm, hmm, rfl, hi⟩
  · exact ⟨[], ⟨none, 0, rfl, Nat.le_refl _, rfl, Nat.zero_le _, fun h => absurd h (Nat.lt_irrefl 0)⟩, .inl ⟨rfl, rfl⟩, Nat.zero_le _⟩
  · have hlm : len ≤ m := by rw [hmm]; split <;> omega
    obtain ⟨l, hll, hp⟩ := list_of (α := α) (p := fun i y => ∃ cs', w.cells? base (a.add (i * P.cellsOf e)) (P.cellsOf e) = some cs' ∧ d.K w y cs' ∧ Rel (D i) y) len (fun i h1 => by
      obtain ⟨cs', h2, h3⟩ := hi i (by omega)
      obtain ⟨y, hy, hr⟩ := h n cs' _ h3
      exact ⟨y, cs', h2, hy, hr⟩)
    subst hll
    refine ⟨l, ⟨some a, cap, rfl, hl, rfl, by omega, fun _ => ⟨a, rfl, fun j p hj => ?_⟩⟩, .inr ⟨_, _, rfl, by simp, fun i e' a' h1 h2 => ?_⟩, by omega⟩
    · obtain ⟨cs', h2, h3, _⟩ := hp j p hj
      obtain ⟨_, h4, h5⟩ := World.cells?_some h2
      refine ⟨cs', by rw [h4, hc], h3, fun i u hu => ?_⟩
      have hil : i < cs'.length := (List.getElem?_eq_some_iff.1 hu).1
      have := h5 i (by omega)
      rw [hu, Go.Deep.add_add, hc] at this
      exact this
    · obtain ⟨_, _, _, h4⟩ := hp i a' h2
      have hil : i < l.length := (List.getElem?_eq_some_iff.1 h2).1
      simp [hil] at h1
      subst h1
      exact h4
theorem opens_one {f : Field} {off : Nat} {α : Type} {d : Kd α} {Rel : DataW H → α → Prop} (hf : f.offset = off) (hc : P.cellsOf f.type = d.sz) (h : Opens enc P w base spare held f.type d Rel) :
    OpensFs enc P w base spare held off [f] d (fun l a => ∃ y, l = [y] ∧ Rel y a) := by
  intro n cs xs hx hcs hi
  obtain ⟨x, rfl⟩ := List.length_eq_one_iff.1 (show xs.length = 1 from hx)
  have h0 := hi 0 f rfl
  rw [hf, hc, List.take_of_length_le (by rw [List.length_drop]; omega)] at h0
  obtain ⟨a, ha, hr⟩ := h n _ x h0
  exact ⟨a, ha, _, rfl, hr⟩
theorem opens_cons {f : Field} {fs : List Field} {off : Nat} {α β : Type} {d0 : Kd α} {d : Kd β} {R0 : DataW H → α → Prop} {R : List (DataW H) → β → Prop} (hf : f.offset = off) (hc : P.cellsOf f.type = d0.sz) (h0 : Opens enc P w base spare held f.type d0 R0)
    (h : OpensFs enc P w base spare held (off + d0.sz) fs d R) : OpensFs enc P w base spare held off (f :: fs) (Kd.pair d0 d) (fun l a => ∃ y r, l = y :: r ∧ R0 y a.1 ∧ R r a.2) := by
  intro n cs xs hx hcs hi
  cases xs with
  | nil => simp at hx
  | cons x xs =>
    have hsz : (Kd.pair d0 d).sz = d0.sz + d.sz := rfl
    rw [hsz] at hcs
    have h1 := hi 0 f rfl
    rw [hf, hc] at h1
    obtain ⟨a, ha, hr⟩ := h0 n _ x h1
    obtain ⟨b, hb, hs⟩ := h n cs xs (by simpa using hx) (by omega) (fun i g hg => hi (i + 1) g hg)
    refine ⟨(a, b), ⟨_, _, ?_, ha, hb⟩, _, _, rfl, hr, hs⟩
    rw [← List.drop_drop]
    exact (List.take_append_drop _ _).symm
theorem opens_struct {t : TypeId} {fs : Array Field} {α β : Type} {d : Kd α} {R : List (DataW H) → α → Prop} (f : β → α) (g : α → β) (hg : ∀ a, f (g a) = a) (ht : P.underlying t = some (.struct fs)) (hc : P.cellsOf t = d.sz) (h : OpensFs enc P w base spare held 0 fs.toList d R) :
    Opens enc P w base spare held t (Kd.iso d f) (fun x b => ∃ l, x = .agg l ∧ R l (f b)) := by
  intro fuel cs x hx
  obtain ⟨xs, n, _, rfl, hl, hxl, hi⟩ := DataW.trod_struct ht hx
  obtain ⟨a, ha, hr⟩ := h n cs xs (by simpa using hxl) (by rw [hl, hc, Nat.zero_add]) (fun i g hg' => hi i g (by rw [← Array.getElem?_toList]; exact hg'))
  rw [List.drop_zero] at ha
  refine ⟨g a, ?_, _, rfl, ?_⟩
  · show d.K w (f (g a)) cs
    rw [hg]; exact ha
  · rw [hg]; exact hr
theorem row_open {t e : TypeId} {α : Type} {d : Kd α} {Rel : DataW H → α → Prop} {A : Option Addr} {len cap : Nat} {x : DataW H} {ps : List MemPlace} (ht : P.underlying t = some (.slice e)) (hc : P.cellsOf e = d.sz)
    (h : Opens enc P w base spare held e d Rel) (hx : ∃ m, DataW.trod enc P w base spare held m t [.slice A len cap] = some (x, ps)) :
    ∃ l : List α, len = l.length ∧ d.C w A l.length l ∧ l.length ≤ cap ∧ RowD Rel x l ∧ l.length ≤ maxLen := by
  obtain ⟨m, hm⟩ := hx
  obtain ⟨l, ⟨A', c', he, hlc, hC⟩, hr, hml⟩ := opens_slice 0 ht hc h m _ _ hm
  injection he with he _
  injection he with h1 h2 h3
  subst h1 h2 h3
  exact ⟨l, rfl, hC, hlc, hr, hml⟩
end
theorem bulk_pos {H : Type} (d : DataW H) : 1 ≤ Rows.uptoBulk d := by
  cases d with
  | lit l => cases l <;> simp only [Rows.uptoBulk] <;> omega
  | nil => simp only [Rows.uptoBulk]; omega
  | ptr d => simp only [Rows.uptoBulk]; omega
  | slice a b => simp only [Rows.uptoBulk]; omega
  | agg p => simp only [Rows.uptoBulk]; omega
  | iface a d => simp only [Rows.uptoBulk]; omega
  | map e => simp only [Rows.uptoBulk]; omega
  | _ => simp only [Rows.uptoBulk]; omega
theorem bulk_all {H : Type} : ∀ l : List (DataW H), l.length ≤ Rows.uptoBulkAll l ∧ ∀ (i : Nat) x, l[i]? = some x → Rows.uptoBulk x ≤ Rows.uptoBulkAll l
  | [] => ⟨Nat.zero_le _, fun i x h => by simp at h⟩
  | d :: l => by
    obtain ⟨h1, h2⟩ := bulk_all l
    have hp := bulk_pos d
    simp only [Rows.uptoBulkAll, List.length_cons]
    refine ⟨by omega, fun i x h => ?_⟩
    cases i with
    | zero => simp at h; subst h; omega
    | succ i => have := h2 i x (by simpa using h); omega
theorem bulk_row {H : Type} {α : Type} {Rel : DataW H → α → Prop} {x : DataW H} {l : List α} (h : RowD Rel x l) : l.length ≤ Rows.uptoBulk x ∧ ∀ (i : Nat) a, l[i]? = some a → ∃ e, Rel e a ∧ Rows.uptoBulk e ≤ Rows.uptoBulk x := by
  rcases h with ⟨rfl, rfl⟩ | ⟨es, r, rfl, hl, he⟩
  · exact ⟨Nat.zero_le _, fun i a h => by simp at h⟩
  · obtain ⟨h1, h2⟩ := bulk_all es
    simp only [Rows.uptoBulk]
    refine ⟨by omega, fun i a ha => ?_⟩
    have hil : i < es.length := by rw [hl]; exact (List.getElem?_eq_some_iff.1 ha).1
    have hes : es[i]? = some es[i] := List.getElem?_eq_getElem hil
    exact ⟨es[i], he i _ _ hes ha, by have := h2 i _ hes; omega⟩
theorem bulk_agg {H : Type} {l : List (DataW H)} (i : Nat) (x : DataW H) (h : l[i]? = some x) : Rows.uptoBulk x ≤ Rows.uptoBulk (.agg l) := by
  have := (bulk_all l).2 i x h
  simp only [Rows.uptoBulk]
  omega
theorem bulk_str {H : Type} (s : ByteArray) : s.size ≤ Rows.uptoBulk (.lit (.string s.data.toList) : DataW H) := by
  simp only [Rows.uptoBulk, Array.length_toList]
  have : s.data.size = s.size := rfl
  omega
end Go.Proofs.YtejgbdclhlolkaaGreatDoor.Q
namespace Go.Proofs.YtejgbdclhlolkaaGreatDoor.Q
open Go.RowKit Go.Proofs.YtejgbdclhlolkaaGreatDoorW.PrintWords Go.Proofs.YtejgbdclhlolkaaGreatDoorW.PrintLast Go.ChangeShapes
set_option linter.unusedVariables false
set_option linter.unusedSimpArgs false
def StrD {H : Type} (x : DataW H) (s : ByteArray) : Prop := x = .lit (.string s.data.toList) ∧ s.size ≤ maxLen
def AmD {H : Type} (x : DataW H) (b : S57) : Prop := ∃ l, x = .agg l ∧ ∃ y r, l = y :: r ∧ StrD y b.f0 ∧ ∃ y2, r = [y2] ∧ (y2 = .lit (.int .i64 b.f1) ∧ (Lit.int .i64 b.f1).wf = true)
section
variable {H : Type} {enc : TypeId × Value → H} {w : World} {base : Nat} {spare : Nat → Bool} {held : Bool}
theorem opens57 : Opens enc Tryz.prog w base spare held 57 k57 AmD :=
  opens_struct (fun x : S57 => (x.f0, x.f1)) (fun a => ⟨a.1, a.2⟩) (fun _ => rfl) Tryz.underlying57 (by kernel_rfl)
    (opens_cons rfl (by kernel_rfl) (opens_string Tryz.underlying9) (opens_one rfl (by kernel_rfl) (opens_int Tryz.underlying2)))
end
def Small57 (l : List S57) : Prop := l.length ≤ 1048576 ∧ ∀ x ∈ l, x.f0.size ≤ 1048576 ∧ -9223372036854775808 ≤ x.f1 ∧ x.f1 ≤ 9223372036854775807
theorem small57 {H : Type} {d : DataW H} {l : List S57} (h : RowD AmD d l) (hb : Rows.uptoBulk d ≤ 1048576) : Small57 l := by
  obtain ⟨h1, h2⟩ := bulk_row h
  refine ⟨by omega, fun t ht => ?_⟩
  obtain ⟨i, hi, rfl⟩ := List.getElem_of_mem ht
  obtain ⟨e, ⟨l', rfl, y, r, rfl, ⟨rfl, _⟩, y2, rfl, ⟨rfl, hw⟩⟩, he⟩ := h2 i _ (List.getElem?_eq_getElem hi)
  have b1 := bulk_agg (l := [.lit (.string l[i].f0.data.toList), .lit (.int .i64 l[i].f1)]) 0 (.lit (.string l[i].f0.data.toList) : DataW H) rfl
  have b2 := bulk_str (H := H) l[i].f0
  simp only [Lit.wf, IntKind.min, IntKind.max, IntKind.signed, IntKind.bits, Bool.and_eq_true, decide_eq_true_eq, if_true] at hw
  exact ⟨by omega, by omega, by omega⟩
end Go.Proofs.YtejgbdclhlolkaaGreatDoor.Q
namespace Go.Proofs.YtejgbdclhlolkaaGreatDoor.Pure
open Go.RowKit Go.Proofs.YtejgbdclhlolkaaGreatDoorW.PrintWords Go.Proofs.YtejgbdclhlolkaaGreatDoorW.PrintLast Go.Proofs.YtejgbdclhlolkaaGreatDoor.Q
set_option linter.unusedVariables false
set_option linter.unusedSimpArgs false
theorem fit_small {l : List S57} (c : Small57 l) : Fit l := ⟨c.1, fun a ha => by have := (c.2 a ha).1; omega, fun a ha => (c.2 a ha).2⟩
theorem lenB (r : List S57) : (r.length : Int) ≤ ((r ++ [markS]).length : Int) := by rw [List.length_append]; omega
theorem added_ev {a b : List S57} (ha : Fit a) (hb : Fit b) : Ev (fun k => bursarlaw03_added.f k a b) (plusP a b) := by
  have h1 := ha.1
  have h2 := hb.1
  refine Ev.congr (f := fun k => (quant_Plus.f k a b).bind fun bt => some (bt.1, bt.2)) (fun k => ?_) (Ev.bind (plus_evL ha hb) (Ev.now _))
  unfold bursarlaw03_added.f
  rw [behind_is a (by omega), Option.bind_some, if_pos (by omega), if_pos (lenB a), behind_take, behind_is b (by omega), Option.bind_some, if_pos (by omega), if_pos (lenB b), behind_take]
theorem adds_j6 {a b c x : List S57} {e : Int} (ha : Fit a) (hb : Fit b) (hc : Fit c) (hx : Fit x) (hva : validP a = 0) (hvb : validP b = 0) (he : e = 0 → Canon (a ++ b) x ∧ validP x = 0) :
    Ev (fun k => bursarlaw03_QuantAddsUp.j6 k a b c x e false) true := by
  have hq : ∃ q f, plusP b c = (q, f) ∧ Fit q ∧ (f = 0 → validP c = 0 ∧ Canon (b ++ c) q ∧ validP q = 0) := by
    by_cases hvc : validP c = 0
    · rcases plus_cases hb hc hvb hvc with (h | h) | ⟨M, hM, hC, hV, hF, _⟩
      · exact ⟨_, _, h, Fit.nil, fun h => by omega⟩
      · exact ⟨_, _, h, Fit.nil, fun h => by omega⟩
      · exact ⟨_, _, hM, hF, fun _ => ⟨hvc, hC, hV⟩⟩
    · refine ⟨[], 31, ?_, Fit.nil, fun h => by omega⟩
      unfold plusP
      rw [if_neg]
      rw [okP_iff]
      exact fun h => hvc h.2
  obtain ⟨q, f, hq, hFq, hf⟩ := hq
  have e1 := added_ev hx hc
  have e2 := added_ev hb hc
  rw [hq] at e2
  have e3 := added_ev ha hFq
  refine Ev.step (fun k => by simp only [bursarlaw03_QuantAddsUp.j6]; rw [if_neg Bool.false_ne_true]) (Ev.bind e1 (Ev.bind e2 (Ev.bind e3 ?_)))
  by_cases h0 : e = 0
  · refine Ev.congr (fun k => if_pos h0) ?_
    obtain ⟨hCx, hVx⟩ := he h0
    by_cases h1 : (plusP x c).2 = 0
    · refine Ev.congr (fun k => if_pos h1) ?_
      by_cases h2 : f = 0
      · refine Ev.congr (fun k => if_pos h2) ?_
        obtain ⟨hvc, hCq, hVq⟩ := hf h2
        by_cases h3 : (plusP a q).2 = 0
        · refine Ev.congr (fun k => if_pos h3) ?_
          have hp : (plusP x c).1 = (plusP a q).1 ∧ (plusP a q).1.length ≤ 1048576 := by
            rcases plus_cases hx hc hVx hvc with (h | h) | ⟨M, hM, hC, _, hF, _⟩
            · rw [h] at h1; exact absurd h1 (by decide)
            · rw [h] at h1; exact absurd h1 (by decide)
            · rcases plus_cases ha hFq hva hVq with (h | h) | ⟨M', hM', hC', _, hF', _⟩
              · rw [h] at h3; exact absurd h3 (by decide)
              · rw [h] at h3; exact absurd h3 (by decide)
              · rw [hM, hM']
                refine ⟨rises_eq hC.1 hC'.1 (fun y => ?_), hF'.1⟩
                rw [hC.2, hC'.2, named_app, named_app, named_canon hCx, named_canon hCq, named_app, named_app, tot_append, tot_append, tot_canon hCx, tot_canon hCq, tot_append, tot_append]
                constructor
                · rintro ⟨(h | h) | h, h2⟩
                  · exact ⟨.inl h, by omega⟩
                  · exact ⟨.inr (.inl h), by omega⟩
                  · exact ⟨.inr (.inr h), by omega⟩
                · rintro ⟨h | h | h, h2⟩
                  · exact ⟨.inl (.inl h), by omega⟩
                  · exact ⟨.inl (.inr h), by omega⟩
                  · exact ⟨.inr h, by omega⟩
          rw [hp.1]
          exact Ev.bind (same_refl _ (by have := hp.2; omega)) (Ev.now _)
        · exact Ev.congr (fun k => if_neg h3) (Ev.now _)
      · exact Ev.congr (fun k => if_neg h2) (Ev.now _)
    · exact Ev.congr (fun k => if_neg h1) (Ev.now _)
  · exact Ev.congr (fun k => if_neg h0) (Ev.now _)
def keepN (b : List S57) : List S57 → List S57
  | [] => []
  | x :: r => if named b x.f0 = true then x :: keepN b r else keepN b r
theorem keep_mem (b : List S57) : ∀ (l : List S57) (y : S57), y ∈ keepN b l ↔ y ∈ l ∧ named b y.f0 = true
  | [], y => by simp [keepN]
  | x :: r, y => by
    unfold keepN
    by_cases h : named b x.f0 = true
    · rw [if_pos h, List.mem_cons, List.mem_cons, keep_mem b r]
      constructor
      · rintro (rfl | ⟨h1, h2⟩)
        · exact ⟨.inl rfl, h⟩
        · exact ⟨.inr h1, h2⟩
      · rintro ⟨rfl | h1, h2⟩
        · exact .inl rfl
        · exact .inr ⟨h1, h2⟩
    · rw [if_neg h, List.mem_cons, keep_mem b r]
      constructor
      · rintro ⟨h1, h2⟩
        exact ⟨.inr h1, h2⟩
      · rintro ⟨rfl | h1, h2⟩
        · exact absurd h2 h
        · exact ⟨h1, h2⟩
theorem keep_rises (b : List S57) : ∀ l : List S57, Rises l → Rises (keepN b l) ∧ (keepN b l).length ≤ l.length
  | [], h => ⟨h, Nat.le_refl _⟩
  | x :: r, h => by
    obtain ⟨h1, h2⟩ := rises_cons.1 h
    obtain ⟨i1, i2⟩ := keep_rises b r h2
    unfold keepN
    by_cases hn : named b x.f0 = true
    · rw [if_pos hn]
      exact ⟨rises_cons.2 ⟨fun y hy => h1 y ((keep_mem b r y).1 hy).1, i1⟩, by simp; omega⟩
    · rw [if_neg hn]
      exact ⟨i1, by simp; omega⟩
theorem of_namedA (x : ByteArray) : ∀ M : List S57, (ofL x M).2 = named M x
  | [] => rfl
  | a :: M => by
    unfold ofL
    by_cases e : a.f0 = x
    · rw [if_pos e]
      exact ((named_cons a M x).2 (.inl e)).symm
    · rw [if_neg e, of_namedA x M, Bool.eq_iff_iff, named_cons]
      exact ⟨fun h => .inr h, fun h => h.resolve_left e⟩
theorem adds_l1 {a b c x : List S57} {e : Int} (ha : Fit a) (hb : Fit b) (r : Bool) (N : List S57)
    (hK : Ev (fun k => bursarlaw03_QuantAddsUp.l1 k a b c x e N (a.length : Int)) r) :
    ∀ (m i : Nat) (acc : List S57), i + m = a.length → acc ++ keepN b (a.drop i) = N → acc.length ≤ i → Ev (fun k => bursarlaw03_QuantAddsUp.l1 k a b c x e acc (i : Int)) r := by
  have h1 := ha.1
  have h2 := hb.1
  intro m
  induction m with
  | zero =>
    intro i acc hi hN hl
    obtain rfl : i = a.length := by omega
    rw [List.drop_length] at hN
    rw [show acc = N by rw [← hN]; simp [keepN]]
    exact hK
  | succ m ih =>
    intro i acc hi hN hl
    have hia : i < a.length := by omega
    rw [List.drop_eq_getElem_cons hia] at hN
    have hk : keepN b (a[i] :: a.drop (i + 1)) = if named b (a[i]).f0 = true then a[i] :: keepN b (a.drop (i + 1)) else keepN b (a.drop (i + 1)) := rfl
    rw [hk] at hN
    refine Ev.step (f := fun k => (quant_Of.f k b (a[i]).f0).bind fun bt606 => (if bt606.2 = true then (bursarlaw03_QuantAddsUp.l1 k a b c x e (acc ++ [a[i]]) ((i + 1 : Nat) : Int)) else (bursarlaw03_QuantAddsUp.l1 k a b c x e acc ((i + 1 : Nat) : Int)))) (fun k => ?_) (Ev.bind (of_ev (a[i]).f0 b (by omega)) ?_)
    · simp only [bursarlaw03_QuantAddsUp.l1]
      rw [if_pos (by omega), if_pos (by omega), rd_get57 a i hia, if_pos (show acc.length < 5864062014805 by omega), wl i (by omega)]
    · rw [of_namedA]
      cases hn : named b (a[i]).f0 with
      | true =>
        rw [hn, if_pos rfl] at hN
        exact Ev.congr (fun k => if_pos rfl) (ih (i + 1) (acc ++ [a[i]]) (by omega) (by rw [List.append_assoc]; exact hN) (by simp; omega))
      | false =>
        rw [hn, if_neg Bool.false_ne_true] at hN
        exact Ev.congr (fun k => if_neg Bool.false_ne_true) (ih (i + 1) acc (by omega) hN (by omega))
theorem adds_j4 {a b c x : List S57} {e : Int} (ha : Fit a) (hb : Fit b) (hc : Fit c) (hx : Fit x) (hva : validP a = 0) (hvb : validP b = 0) (he : e = 0 → Canon (a ++ b) x ∧ validP x = 0) :
    Ev (fun k => bursarlaw03_QuantAddsUp.j4 k a b c x e) true := by
  have h1 := ha.1
  have h2 := hb.1
  have va := (valid_iff a).1 hva
  have vb := (valid_iff b).1 hvb
  obtain ⟨N, hN⟩ : ∃ N, N = keepN b a := ⟨_, rfl⟩
  have hr := keep_rises b a va.2.1
  have hm := keep_mem b a
  rw [← hN] at hr hm
  have hvN : validP N = 0 := (valid_iff N).2 ⟨by omega, hr.1, fun y hy => va.2.2 y ((hm y).1 hy).1⟩
  have hFN : Fit N := fit_valid hvN (fun y hy => (ha.2.2 y ((hm y).1 hy).1).2)
  have rb := vb.2.1
  have ra := va.2.1
  -- Minus of what is named is refused just where Within tells a name
  have hiff : (∀ y ∈ b, Q.valOf a y.f0 ≤ y.f1) ↔ ∀ y ∈ N, y.f1 ≤ Q.valOf b y.f0 := by
    constructor
    · intro h y hy
      obtain ⟨hya, hyb⟩ := (hm y).1 hy
      obtain ⟨z, hz, ez⟩ := (named_iff b y.f0).1 hyb
      have h3 := h z hz
      rw [ez, val_mem ra hya] at h3
      rw [← ez, val_mem rb hz]
      exact h3
    · intro h y hy
      by_cases hn : named a y.f0 = true
      · obtain ⟨z, hz, ez⟩ := (named_iff a y.f0).1 hn
        have h3 := h z ((hm z).2 ⟨hz, (named_iff b z.f0).2 ⟨y, hy, ez.symm⟩⟩)
        rw [ez, val_mem rb hy] at h3
        rw [← ez, val_mem ra hz]
        exact h3
      · rw [val_none]
        · exact (vb.2.2 y hy).2
        · intro z hz ez
          exact hn ((named_iff a y.f0).2 ⟨z, hz, ez⟩)
  have hW : withinP a b = (firstOver a b, 0) := by unfold withinP; rw [if_pos ((okP_iff a b).2 ⟨hva, hvb⟩)]
  have hov := over_none a b (fun y hy => (vb.2.2 y hy).1)
  have hM : ((minusP b N).2 == 0) = ((firstOver a b).toList == ([] : List UInt8)) := by
    rw [Bool.eq_iff_iff, beq_iff_eq, beq_iff_eq, hov, hiff]
    rcases minus_cases hb hFN hvb hvN with ⟨⟨y, hy, hlt⟩, hE⟩ | ⟨hall, M, hE, hR, hmem⟩
    · rw [hE]
      refine ⟨fun h => absurd h (by decide), fun h => ?_⟩
      have := h y hy
      omega
    · have hlen : M.length = b.length := by
        have hb' : ∀ z, z ∈ M.map (·.f0) ↔ z ∈ b.map (·.f0) := by
          intro z
          rw [List.mem_map, List.mem_map]
          constructor
          · rintro ⟨y, hy, rfl⟩
            rcases ((hmem y).1 hy).1 with h | h
            · exact (named_iff b y.f0).1 h
            · obtain ⟨w, hw, ew⟩ := (named_iff N y.f0).1 h
              rw [← ew]
              exact (named_iff b w.f0).1 ((hm w).1 hw).2
          · rintro ⟨y, hy, rfl⟩
            exact ⟨⟨y.f0, Q.valOf b y.f0 - Q.valOf N y.f0⟩, (hmem _).2 ⟨.inl ((named_iff b y.f0).2 ⟨y, hy, rfl⟩), rfl⟩, rfl⟩
        have n1 : (M.map (·.f0)).Nodup := List.Pairwise.map _ (fun x y (hxy : nless x.f0 y.f0 = true) e => by rw [e, nless_irrefl] at hxy; cases hxy) hR
        have n2 : (b.map (·.f0)).Nodup := List.Pairwise.map _ (fun x y (hxy : nless x.f0 y.f0 = true) e => by rw [e, nless_irrefl] at hxy; cases hxy) rb
        have := ((List.perm_ext_iff_of_nodup n1 n2).2 hb').length_eq
        simpa using this
      rw [hE, if_neg (by omega)]
      exact ⟨fun _ => hall, fun _ => rfl⟩
  have hj6 := adds_j6 (x := x) (e := e) ha hb hc hx hva hvb he
  have hend : Ev (fun k => bursarlaw03_QuantAddsUp.l1 k a b c x e N (a.length : Int)) true := by
    refine Ev.step (f := fun k => (quant_Minus.f k b N).bind fun bt619 => (quant_Within.f k a b).bind fun bt637 => (if bt637.2 = 0 then (bursarlaw03_QuantAddsUp.j6 k a b c x e ((bt637.1.toList == ([] : List UInt8)) != (bt619.2 == 0))) else (bursarlaw03_QuantAddsUp.j6 k a b c x e true))) (fun k => ?_) (Ev.bind (minus_evL hb hFN) (Ev.bind (within_evL ha hb) ?_))
    · simp only [bursarlaw03_QuantAddsUp.l1]
      rw [if_neg (by omega), behind_is b (by omega), Option.bind_some, if_pos (by omega), if_pos (lenB b), behind_take]
      congr 1
      funext bt
      rw [behind_is a (by omega), Option.bind_some, if_pos (by omega), if_pos (lenB a), behind_take, Option.bind_some, if_pos (lenB b), behind_take]
    · rw [hW, hM, bne_self_eq_false]
      exact Ev.congr (fun k => if_pos rfl) hj6
  have := adds_l1 ha hb true N hend a.length 0 [] (by omega) (by rw [List.drop_zero, List.nil_append, hN]) (by simp)
  exact Ev.step (fun k => by simp only [bursarlaw03_QuantAddsUp.j4]; rfl) this
theorem adds_l0 {a b c x : List S57} (ha : Fit a) (hb : Fit b) (hx : Fit x) (hva : validP a = 0) (hvx : validP x = 0) (hle : ∀ y ∈ x, Q.valOf a y.f0 ≤ y.f1) (hJ : Ev (fun k => bursarlaw03_QuantAddsUp.j4 k a b c x 0) true) :
    ∀ (m i : Nat), i + m = x.length → Ev (fun k => bursarlaw03_QuantAddsUp.l0 k a b c x 0 (x.map fun y => ⟨y.f0, Q.valOf a y.f0⟩) (i : Int)) true := by
  have h1 := ha.1
  have h2 := hx.1
  have hW : withinP a x = (firstOver a x, 0) := by unfold withinP; rw [if_pos ((okP_iff a x).2 ⟨hva, hvx⟩)]
  have hov := (over_none a x (fun y hy => (((valid_iff x).1 hvx).2.2 y hy).1)).2 hle
  have hlen : (x.map fun y => (⟨y.f0, Q.valOf a y.f0⟩ : S57)).length = x.length := List.length_map ..
  intro m
  induction m with
  | zero =>
    intro i hi
    refine Ev.step (f := fun k => (quant_Within.f k a x).bind fun bt603 => (if bt603.1.toList = ([] : List UInt8) then (if bt603.2 = 0 then (bursarlaw03_QuantAddsUp.j4 k a b c x 0) else (some false)) else (some false))) (fun k => ?_) (Ev.bind (within_evL ha hx) ?_)
    · simp only [bursarlaw03_QuantAddsUp.l0]
      rw [hlen, if_neg (by omega), behind_is a (by omega), Option.bind_some, if_pos (by omega), if_pos (lenB a), behind_take, behind_is x (by omega), Option.bind_some, if_pos (by omega), if_pos (lenB x), behind_take]
    · rw [hW]
      exact Ev.congr (fun k => if_pos hov) (Ev.congr (fun k => if_pos rfl) hJ)
  | succ m ih =>
    intro i hi
    have hix : i < x.length := by omega
    have key := ih (i + 1) (by omega)
    have hg : rd_T57 (x.map fun y => (⟨y.f0, Q.valOf a y.f0⟩ : S57)) (i : Int) = ⟨(x[i]).f0, Q.valOf a (x[i]).f0⟩ := by
      rw [rd_get57 _ i (by rw [hlen]; exact hix)]
      simp
    refine Ev.step (f := fun k => (quant_Of.f k a (x[i]).f0).bind fun bt584 => (if (Q.valOf a (x[i]).f0) = bt584.1 then (bursarlaw03_QuantAddsUp.l0 k a b c x 0 (x.map fun y => ⟨y.f0, Q.valOf a y.f0⟩) ((i + 1 : Nat) : Int)) else (some false))) (fun k => ?_) (Ev.bind (of_ev (x[i]).f0 a (by omega)) (Ev.congr (fun k => if_pos (of_val _ _).symm) key))
    simp only [bursarlaw03_QuantAddsUp.l0]
    rw [hlen, if_pos (by omega), if_pos (by omega), hg, rd_get57 x i hix]
    congr 1
    funext bt
    rw [if_pos (by omega), if_pos rfl, wl i (by omega)]
theorem QuantAddsUp (a b c : List S57) (c0 : Small57 a) (c1 : Small57 b) (c2 : Small57 c) : ∃ k, bursarlaw03_QuantAddsUp.f k a b c = some true := by
  have ha := fit_small c0
  have hb := fit_small c1
  have hc := fit_small c2
  have h1 := ha.1
  have h2 := hb.1
  have e1 := added_ev ha hb
  have e2 := added_ev hb ha
  rw [← plus_comm ha hb] at e2
  refine Ev.rounds ?_
  have hlen : (plusP a b).1.length ≤ 1048576 := by
    by_cases hv : validP a = 0 ∧ validP b = 0
    · rcases plus_cases ha hb hv.1 hv.2 with (h | h) | ⟨M, hM, _, _, hF, _⟩
      · rw [h]; decide
      · rw [h]; decide
      · rw [hM]; exact hF.1
    · unfold plusP
      rw [if_neg (by rw [okP_iff]; exact hv)]
      decide
  refine Ev.bind known_ev (Ev.congr (fun k => if_pos rfl) (Ev.bind e1 (Ev.bind e2 (Ev.congr (fun k => if_pos rfl) (Ev.bind (same_refl _ (by omega)) ?_)))))
  have v1 := valid_ev a ha.1 ha.2.1
  have v2 := valid_ev b hb.1 hb.2.1
  -- not both valid
  have hbad : ¬ (validP a = 0 ∧ validP b = 0) → Ev (fun k => bursarlaw03_QuantAddsUp.j1 k a b c (plusP a b).1 (plusP a b).2 true) true := by
    intro hv
    have hp : plusP a b = ([], 31) := by unfold plusP; rw [if_neg (by rw [okP_iff]; exact hv)]
    rw [hp]
    exact Ev.step (f := fun _ => some true) (fun k => by simp only [bursarlaw03_QuantAddsUp.j1]; rw [if_pos trivial, if_pos trivial]; rfl) (Ev.now _)
  refine Ev.step (fun k => by simp only [bursarlaw03_QuantAddsUp.j0, Bool.not_true]; rw [if_neg Bool.false_ne_true]) (Ev.bind v1 ?_)
  by_cases hva : validP a = 0
  · refine Ev.congr (fun k => if_pos hva) (Ev.bind v2 ?_)
    by_cases hvb : validP b = 0
    · rw [hvb, bne_self_eq_false]
      have va := (valid_iff a).1 hva
      have vb := (valid_iff b).1 hvb
      rcases plus_cases ha hb hva hvb with (h | h) | ⟨M, hM, hC, hV, hF, ht⟩
      · rw [h]
        refine Ev.step (fun k => ?_) (adds_j4 (e := 7) ha hb hc Fit.nil hva hvb (fun h => by omega))
        simp only [bursarlaw03_QuantAddsUp.j1]
        rw [if_neg Bool.false_ne_true, if_neg (by decide)]
      · rw [h]
        refine Ev.step (fun k => ?_) (adds_j4 (e := 23) ha hb hc Fit.nil hva hvb (fun h => by omega))
        simp only [bursarlaw03_QuantAddsUp.j1]
        rw [if_neg Bool.false_ne_true, if_neg (by decide)]
      · rw [hM]
        have hj4 := adds_j4 (x := M) (e := 0) ha hb hc hF hva hvb (fun _ => ⟨hC, hV⟩)
        have hval : ∀ n, Q.valOf M n = Q.valOf a n + Q.valOf b n := fun n => by rw [← tot_rises hC.1, tot_canon hC, tot_append, tot_rises va.2.1, tot_rises vb.2.1]
        have p1 := fun n => (val_ok va.2.1 (valid_in hva ha) n).1
        have p2 := fun n => (val_ok vb.2.1 (valid_in hvb hb) n).1
        have hmin : minusP M b = (M.map fun y => ⟨y.f0, Q.valOf a y.f0⟩, 0) := by
          rcases minus_cases hF hb hV hvb with ⟨⟨y, hy, hlt⟩, _⟩ | ⟨_, M', hE, hR, hmem⟩
          · rw [hval] at hlt
            have := p1 y.f0
            have h3 := val_mem vb.2.1 hy
            omega
          · have hR2 : Rises (M.map fun y => (⟨y.f0, Q.valOf a y.f0⟩ : S57)) := List.Pairwise.map _ (fun x y hxy => hxy) hC.1
            have e : M' = M.map fun y => (⟨y.f0, Q.valOf a y.f0⟩ : S57) := by
              refine rises_eq hR hR2 (fun y => ?_)
              rw [hmem, hval, List.mem_map]
              constructor
              · rintro ⟨hn, hv⟩
                have hnM : named M y.f0 = true := by
                  rcases hn with h | h
                  · exact h
                  · exact (named_canon hC y.f0).2 ((named_app a b y.f0).2 (.inr h))
                obtain ⟨z, hz, ez⟩ := (named_iff M y.f0).1 hnM
                refine ⟨z, hz, ?_⟩
                have : y.f1 = Q.valOf a y.f0 := by omega
                cases y
                simp only at ez this ⊢
                rw [ez, this]
              · rintro ⟨z, hz, rfl⟩
                refine ⟨.inl ((named_iff M z.f0).2 ⟨z, hz, rfl⟩), ?_⟩
                show Q.valOf a z.f0 = Q.valOf a z.f0 + Q.valOf b z.f0 - Q.valOf b z.f0
                omega
            rw [hE, e, if_neg]
            have := ((valid_iff M).1 hV).1
            rw [List.length_map]
            omega
        have hle : ∀ y ∈ M, Q.valOf a y.f0 ≤ y.f1 := fun y hy => by
          have h3 := val_mem hC.1 hy
          rw [hval] at h3
          have := p2 y.f0
          omega
        have hl0 := adds_l0 (c := c) ha hb hF hva hV hle hj4 M.length 0 (by omega)
        have hj2 : Ev (fun k => bursarlaw03_QuantAddsUp.j2 k a b c M 0 (M.map fun y => ⟨y.f0, Q.valOf a y.f0⟩) false) true := Ev.step (fun k => by simp only [bursarlaw03_QuantAddsUp.j2]; rw [if_neg Bool.false_ne_true]; rfl) hl0
        have hm1 := minus_evL hF hb
        rw [hmin] at hm1
        have h16 := ((valid_iff M).1 hV).1
        refine Ev.step (f := fun k => (quant_Minus.f k M b).bind fun bt579 => (if bt579.2 = 0 then (bursarlaw03_QuantAddsUp.j2 k a b c M 0 bt579.1 ((bt579.1.length : Int) != (M.length : Int))) else (bursarlaw03_QuantAddsUp.j2 k a b c M 0 bt579.1 true))) (fun k => ?_) (Ev.bind hm1 (Ev.congr (fun k => if_pos rfl) ?_))
        · simp only [bursarlaw03_QuantAddsUp.j1]
          rw [if_neg Bool.false_ne_true, if_pos trivial, behind_is M (by omega), Option.bind_some, if_pos (by omega), if_pos (lenB M), behind_take, behind_is b (by omega), Option.bind_some, if_pos (by omega), if_pos (lenB b), behind_take]
        · rw [List.length_map, bne_self_eq_false]
          exact hj2
    · rw [show (validP b != 0) = true from bne_iff_ne.2 hvb]
      exact hbad (fun h => hvb h.2)
  · exact Ev.congr (fun k => if_neg hva) (hbad (fun h => hva h.1))
end Go.Proofs.YtejgbdclhlolkaaGreatDoor.Pure
namespace Go.Proofs.YtejgbdclhlolkaaGreatDoor.Q
open Go.RowKit Go.Lib Go.ChangeShapes Go.Proofs.YtejgbdclhlolkaaGreatDoorW.PrintWords Go.Proofs.YtejgbdclhlolkaaGreatDoorW.PrintLast
set_option linter.unusedVariables false
set_option linter.unusedSimpArgs false
theorem laid_one {P : Program} {w : World} {l : List (String × DataW Unit)} {n : String} {d : DataW Unit} (h : laidMetH P l w) (hl : (l.filter fun x => x.1 == n) = [(n, d)]) (hd : d.handleName? = none) : laidMet P [(n, d)] w := by
  have h1 := h.filter (fun x => x.1 == n)
  rw [hl] at h1
  have h2 := (laidMetH_iff.1 h1).1
  have e : ([(n, d)] : List (String × DataW Unit)).filter (fun x => x.2.handleName?.isNone) = [(n, d)] := by simp [List.filter_cons, hd]
  rw [e] at h2
  exact h2
theorem struct_si {H : Type} {enc : TypeId × Value → H} {P : Program} {w : World} {base : Nat} {sp : Nat → Bool} {held : Bool} {fuel : Nat} {t : TypeId} {f0 f1 : Field} {k : IntKind} {cs : List Value} {l : List UInt8} {v : Int} {p : List MemPlace}
    (ht : P.underlying t = some (.struct #[f0, f1])) (h0 : P.underlying f0.type = some .string) (h1 : P.underlying f1.type = some (.int k)) (o0 : f0.offset = 0) (o1 : f1.offset = 1) (c0 : P.cellsOf f0.type = 1) (c1 : P.cellsOf f1.type = 1) (c : P.cellsOf t = 2)
    (h : DataW.trod enc P w base sp held fuel t cs = some (.agg [.lit (.string l), .lit (.int k v)], p)) : cs = [.string ⟨l.toArray⟩, .int k v] := by
  obtain ⟨y0, y1, n, hx, hl, e0, e1⟩ := trod_struct2 ht h
  rw [o0, c0] at e0
  rw [o1, c1] at e1
  rw [c] at hl
  injection hx with hx _
  injection hx with hx
  injection hx with hx0 hx
  injection hx with hx1 _
  match cs, hl with
  | [a, b], _ =>
    simp only [List.drop_zero, List.take_succ_cons, List.take_zero, List.drop_succ_cons] at e0 e1
    obtain ⟨s, hs, rfl, _⟩ := DataW.trod_string h0 e0
    obtain ⟨z, hz, rfl, _⟩ := DataW.trod_int h1 e1
    injection hs with hs _
    injection hz with hz _
    subst hs hz
    simp only [DataW.lit.injEq, Lit.string.injEq, Lit.int.injEq, true_and] at hx0 hx1
    subst hx0 hx1
    rfl
theorem arr_at {H : Type} {enc : TypeId × Value → H} {P : Program} {w : World} {base : Nat} {sp : Nat → Bool} {held : Bool} {fuel : Nat} {t e : TypeId} {n : Nat} {cs : List Value} {ds : List (DataW H)} {p : List MemPlace}
    (ht : P.underlying t = some (.array n e)) (h : DataW.trod enc P w base sp held fuel t cs = some (.agg ds, p)) (i : Nat) (hi : i < n) : ∃ f d q, ds[i]? = some d ∧ DataW.trod enc P w base sp held f e ((cs.drop (i * P.cellsOf e)).take (P.cellsOf e)) = some (d, q) := by
  cases fuel with
  | zero => simp [DataW.trod] at h
  | succ fuel =>
    simp only [DataW.trod, ht] at h
    split at h
    · obtain ⟨xs, hm, hx⟩ := Option.map_eq_some_iff.1 h
      injection hx with hx _
      injection hx with hx
      obtain ⟨b, hb, hf⟩ := mapM_at hm i i (by simp [hi])
      exact ⟨fuel, b.1, b.2, by rw [← hx]; simp [hb], hf⟩
    · cases h
theorem units_laid {w : World} (h : laidMet Tryz.prog [("bursar/quant.units", Rows.laid_bursar_quant_units)] w) : ∀ j x, unitCells[j]? = some x → w.cell? ⟨1, j, none⟩ = some x := by
  obtain ⟨ps, ⟨g', t', cs, fuel, p, q, hg', ht', hvar, hd, _, _⟩, _⟩ := h
  obtain rfl : g' = 1 := Option.some.inj (hg'.symm.trans (by kernel_rfl))
  obtain rfl : t' = 67 := Option.some.inj (ht'.symm.trans (by kernel_rfl))
  intro j x hx
  rw [World.var?_cell hg' hvar j]
  have hj : j < 24 := (List.getElem?_eq_some_iff.1 hx).1
  obtain ⟨f, d, q', hd1, hd2⟩ := arr_at Tryz.underlying67 hd (j / 2) (by omega)
  rw [show Tryz.prog.cellsOf 66 = 2 by kernel_rfl] at hd2
  have key : ∀ (l : List UInt8) (v : Int), d = .agg [.lit (.string l), .lit (.int .u64 v)] → ((cs.toList.drop (j / 2 * 2)).take 2) = [.string ⟨l.toArray⟩, .int .u64 v] := fun l v e => by
    subst e
    exact struct_si Tryz.underlying66 Tryz.underlying9 Tryz.underlying36 rfl rfl (by kernel_rfl) (by kernel_rfl) (by kernel_rfl) hd2
  have get : ∀ (a b : Value), ((cs.toList.drop (j / 2 * 2)).take 2) = [a, b] → cs[j]? = if j % 2 = 0 then some a else some b := fun a b e => by
    have e1 : ((cs.toList.drop (j / 2 * 2)).take 2)[j % 2]? = [a, b][j % 2]? := by rw [e]
    rw [List.getElem?_take_of_lt (by omega), List.getElem?_drop, show j / 2 * 2 + j % 2 = j by omega, Array.getElem?_toList] at e1
    rw [e1]
    obtain h | h : j % 2 = 0 ∨ j % 2 = 1 := by omega
    · rw [h]; rfl
    · rw [h]; rfl
  obtain rfl | rfl | rfl | rfl | rfl | rfl | rfl | rfl | rfl | rfl | rfl | rfl | rfl | rfl | rfl | rfl | rfl | rfl | rfl | rfl | rfl | rfl | rfl | rfl : j = 0 ∨ j = 1 ∨ j = 2 ∨ j = 3 ∨ j = 4 ∨ j = 5 ∨ j = 6 ∨ j = 7 ∨ j = 8 ∨ j = 9 ∨ j = 10 ∨ j = 11 ∨ j = 12 ∨ j = 13 ∨ j = 14 ∨ j = 15 ∨ j = 16 ∨ j = 17 ∨ j = 18 ∨ j = 19 ∨ j = 20 ∨ j = 21 ∨ j = 22 ∨ j = 23 := by omega
  all_goals
    rw [get _ _ (key _ _ (Option.some.inj hd1).symm)]
    exact hx
theorem mark_laid {w : World} (h : laidMet Tryz.prog [("bursar/bursarlaw03.mark", Rows.laid_bursar_bursarlaw03_mark)] w) : w.cell? ⟨0, 0, none⟩ = some (.string ⟨#[109, 97, 114, 107]⟩) ∧ w.cell? ⟨0, 1, none⟩ = some (.int .i64 77) := by
  obtain ⟨ps, ⟨g', t', cs, fuel, p, q, hg', ht', hvar, hd, _, _⟩, _⟩ := h
  obtain rfl : g' = 0 := Option.some.inj (hg'.symm.trans (by kernel_rfl))
  obtain rfl : t' = 57 := Option.some.inj (ht'.symm.trans (by kernel_rfl))
  rw [World.var?_cell hg' hvar 0, World.var?_cell hg' hvar 1]
  have e := struct_si Tryz.underlying57 Tryz.underlying9 Tryz.underlying2 rfl rfl (by kernel_rfl) (by kernel_rfl) (by kernel_rfl) hd
  rw [← Array.getElem?_toList, ← Array.getElem?_toList, e]
  exact ⟨rfl, rfl⟩
theorem tab_laid {w : World} (h : laidMet Tryz.prog [("internal/strconv.uint64pow10", Rows.laid_internal_strconv_uint64pow10)] w) : Lib.TabIs Tryz.prog w "internal/strconv.uint64pow10" .u64 Lib.pow10Tab :=
  Lib.tabIs_of_head (g := 4) (t := 130) (e := 36) (n := 20) (by kernel_rfl) (by kernel_rfl) Tryz.underlying130 Tryz.underlying36 (by kernel_rfl) (by kernel_rfl) h
theorem globM_of {W : World} (hsh : W.ShapedOpen Tryz.prog) (h : laidMetH Tryz.prog Rows.quantFindsRow.laid W) : GlobM W :=
  ⟨⟨Tryz.laysM146.s1_3 W hsh, tab_laid (laid_one h rfl rfl), units_laid (laid_one h rfl rfl)⟩, (mark_laid (laid_one h rfl rfl)).1, (mark_laid (laid_one h rfl rfl)).2⟩
end Go.Proofs.YtejgbdclhlolkaaGreatDoor.Q
namespace Go.Proofs.YtejgbdclhlolkaaGreatDoor.quantAddsUp
open Go.ChangeShapes Go.WideShapes Go.ChangeAt Go.RowKit
open Go.ChangeMaps (open_string shut_string)
set_option linter.unusedVariables false
set_option linter.unusedSimpArgs false
theorem own : ownKnob Tryz.prog.godebug = none := by kernel_rfl
theorem laidOut : laidOutB Tryz.prog = true := by kernel_rfl
set_option maxRecDepth 100000 in
theorem contract (H : Type) (enc : TypeId × Value → H) (W : World) (base : Nat) (args : Array Value) (ds gs : List (DataW H)) (before : List MemPlace)
    (hval0 : ∀ (j : Nat) t v, Tryz.f14.params[j]? = some t → args[j]? = some v → Value.okWide Tryz.prog W .any base t v)
    (hW : DataW.Whole enc Tryz.prog Tryz.f14.params.toList Rows.quantAddsUpSpec.vars false W args.toList ds gs before)
    (hk : Rows.uptoSmall H (ds ++ gs) = true)
    (hsh : W.ShapedOpen Tryz.prog)
    (hl : laidMetH Tryz.prog Rows.quantAddsUpUptoRow.laid W)
    : Calls Tryz.prog 14 args W fun e W' => ∃ v, e = .returned v ∧ Rows.quantAddsUpSpec.post enc Tryz.prog Tryz.f14 false true false false W args v W' := by
  have hval : ∀ (j : Nat) t v, Tryz.f14.params[j]? = some t → args[j]? = some v → Value.okWide Tryz.prog W .any base t v := hval0
  have hW' := hW
  obtain ⟨p, q, hA0, hV, rfl, hfz, hnd⟩ := hW
  have hA : DataW.TrodAll enc Tryz.prog W 0 (fun _ => true) true Tryz.f14.params.toList args.toList ds p := hA0
  rw [Tryz.params14] at hA hval
  obtain ⟨v0, vs0, d0, ds0, p0, q0, hargs, rfl, rfl, h0, r0⟩ := trodAll_cons hA
  obtain ⟨v1, vs1, d1, ds1, p1, q1, rfl, rfl, rfl, h1, r1⟩ := trodAll_cons r0
  obtain ⟨v2, vs2, d2, ds2, p2, q2, rfl, rfl, rfl, h2, r2⟩ := trodAll_cons r1
  obtain ⟨rfl, rfl, rfl⟩ := trodAll_nil r2
  obtain rfl : args = #[v0, v1, v2] := by cases args; simp_all
  obtain ⟨rfl, rfl⟩ := trodVars_none hV
  obtain ⟨A0, len0, cap0, rfl⟩ := okWide_slice Tryz.underlying46 (hval 0 46 v0 rfl rfl)
  have k0 := h0
  have lt0 : ∀ x ∈ p0, x.block < W.heap.size := by obtain ⟨m, hm⟩ := k0; exact DataW.trod_lt m _ _ _ hm
  obtain ⟨l0, rfl, hr0, hc0, hz0, hm0⟩ := Q.row_open Tryz.underlying46 (by kernel_rfl) Q.opens57 h0
  obtain ⟨A1, len1, cap1, rfl⟩ := okWide_slice Tryz.underlying46 (hval 1 46 v1 rfl rfl)
  have k1 := h1
  have lt1 : ∀ x ∈ p1, x.block < W.heap.size := by obtain ⟨m, hm⟩ := k1; exact DataW.trod_lt m _ _ _ hm
  obtain ⟨l1, rfl, hr1, hc1, hz1, hm1⟩ := Q.row_open Tryz.underlying46 (by kernel_rfl) Q.opens57 h1
  obtain ⟨A2, len2, cap2, rfl⟩ := okWide_slice Tryz.underlying46 (hval 2 46 v2 rfl rfl)
  have k2 := h2
  have lt2 : ∀ x ∈ p2, x.block < W.heap.size := by obtain ⟨m, hm⟩ := k2; exact DataW.trod_lt m _ _ _ hm
  obtain ⟨l2, rfl, hr2, hc2, hz2, hm2⟩ := Q.row_open Tryz.underlying46 (by kernel_rfl) Q.opens57 h2
  have hb := of_decide_eq_true hk
  simp only [List.append_nil, List.cons_append, List.nil_append, Rows.uptoBulkAll, Rows.uptoBulk, Array.length_toList] at hb
  have c0 : Q.Small57 l0 := Q.small57 hz0 (by omega)
  have c1 : Q.Small57 l1 := Q.small57 hz1 (by omega)
  have c2 : Q.Small57 l2 := Q.small57 hz2 (by omega)
  obtain ⟨k, hp⟩ := Pure.QuantAddsUp l0 l1 l2 c0 c1 c2
  refine (Q.bursarlaw03_QuantAddsUp.calls k A0 cap0 l0 A1 cap1 l1 A2 cap2 l2 true W hr0 hc0 hr1 hc1 hr2 hc2 hp (Q.globM_of hsh hl)).mono fun e W' ⟨he, bel⟩ => ?_
  subst he
  exact ⟨_, rfl, _, _, _, [], _, [], hW', trodAll_mk1 (shut_bool Tryz.underlying4 _), (trodAll_cons_mk (Below.trod laidOut (by kernel_rfl) (of_decide_eq_true (by kernel_rfl)) k0 bel lt0) (trodAll_cons_mk (Below.trod laidOut (by kernel_rfl) (of_decide_eq_true (by kernel_rfl)) k1 bel lt1) (trodAll_cons_mk (Below.trod laidOut (by kernel_rfl) (of_decide_eq_true (by kernel_rfl)) k2 bel lt2) trodAll_mk0))), rfl, bel.frame _, fun h => by cases h⟩
noncomputable def tab1 : Obj → Obj
  | .cells _ t frozen => .cells (Go.Pinned.utf8FirstZ.map fun (n : Nat) => Value.int .u8 (n : Int)).toArray t frozen
  | o => o
noncomputable def laidWorld (os : Os) : World :=
  { World.doorLaid Tryz.prog 94 os with heap := (World.doorLaid Tryz.prog 94 os).heap.modify 10 tab1 }
theorem laid_met (os : Os) : laidMet Tryz.prog Rows.quantAddsUpRow.laid ((laidWorld os).forCall (fun _ _ => 0) ⟨#[], #[.slice none 0 0, .slice none 0 0, .slice none 0 0], []⟩).memory :=
  laidMet_of_run' 8 (by kernel_rfl) (by kernel_rfl)
theorem reads (os : Os) {H : Type} (enc : TypeId × Value → H) : ∃ places, DataW.whole enc Tryz.prog ((laidWorld os).forCall (fun _ _ => 0) ⟨#[], #[.slice none 0 0, .slice none 0 0, .slice none 0 0], []⟩).memory Tryz.f14.params.toList Rows.quantAddsUpSpec.vars false (#[.slice none 0 0, .slice none 0 0, .slice none 0 0] : Array Value).toList 8 = some ([.nil, .nil, .nil], [], places) :=
  ⟨[], by kernel_rfl⟩
set_option maxRecDepth 100000 in
theorem lifted (os : Os) (started : os.Started) (H : Type) (enc : TypeId × Value → H) (F : Stop.Interp) :
    ReturnsInHanded {} Tryz.checked os 14 .any ((Rows.OpenSpec.upto Rows.quantAddsUpSpec).preRow enc Tryz.prog Tryz.f14 Rows.quantAddsUpUptoRow.domain false Rows.quantAddsUpUptoRow.laid) (((Rows.OpenSpec.upto Rows.quantAddsUpSpec).at F).post enc Tryz.prog Tryz.f14 false true false false) := by
  obtain ⟨places, hx⟩ := reads os enc
  refine returnsInHanded_of_row (C := Tryz.checked) (s := Rows.OpenSpec.upto Rows.quantAddsUpSpec) own started (by kernel_rfl) Tryz.func14
    (witness_row_at (enc := enc) (C := Tryz.checked) false (laidWorld os) #[.slice none 0 0, .slice none 0 0, .slice none 0 0] rfl (by kernel_rfl) (by kernel_rfl) (by kernel_rfl)
      (OpenSpec.preRow_of_cond 8 hx (by kernel_rfl) (fun k hk => by cases hk; kernel_rfl) (by kernel_rfl) (laid_met os))) ?_
  intro W base args ds gs before hval hW _ hcond hsz hl hsh _
  exact contract H enc W base args ds gs before hval hW (hcond _ rfl) hsh hl
theorem said : Rows.QuantAddsUpUptoSaid :=
  OpenClaim.holds_of_cond 14 Tryz.f14 rfl rfl rfl rfl rfl rfl rfl ⟨rfl, rfl, rfl, rfl, rfl⟩ rfl rfl rfl rfl rfl (by kernel_rfl) Tryz.func14 (by kernel_rfl)
    (of_decide_eq_true (by kernel_rfl)) (by unfold Func.isWrapper; first | (rw [if_pos (by decide +kernel)]; kernel_rfl) | (rw [if_neg (by decide +kernel)]; exact ⟨rfl, rfl⟩))
    (fun os started H enc _ F => by rw [OpenClaim.pre_eq_preRow]; exact lifted os started H enc F)
theorem plain (f : FuncId) (fn : Func) (hf : Tryz.pinned.checked.prog.funcNamed "bursar/bursarlaw03.QuantAddsUp" = some f) (hfn : Tryz.pinned.checked.prog.funcs[f]? = some fn) :
    true = Tryz.pinned.checked.prog.looks [] ∧ ∀ (j : Nat) t, fn.params[j]? = some t → Tryz.pinned.checked.prog.wantsStandIn t = false := by
  obtain rfl : f = 14 := Option.some.inj ((show Tryz.prog.funcNamed "bursar/bursarlaw03.QuantAddsUp" = some 14 by kernel_rfl).symm.trans hf) |>.symm
  obtain rfl : fn = Tryz.f14 := (Option.some.inj (Tryz.func14.symm.trans hfn)).symm
  refine ⟨by kernel_rfl, fun j t ht => ?_⟩
  rw [Tryz.params14] at ht
  have hall : ∀ x ∈ [46, 46, 46], Tryz.prog.wantsStandIn x = false := by
    intro x hx; simp only [List.mem_cons, List.mem_nil_iff, or_false] at hx; rcases hx with rfl | rfl | rfl <;> kernel_rfl
  exact hall t (by simpa using Array.mem_of_getElem? ht)
theorem card : Rows.QuantAddsUpUptoCardSaid :=
  Claim7.holds_tied_plain_at .later [] _ _ _ _ said (fun _ h => by cases h) (by kernel_rfl) (fun _ h => by cases h) quantAddsUpUpto_row_tie rfl ⟨rfl, rfl⟩ (by kernel_rfl) rfl plain (by kernel_rfl)
end Go.Proofs.YtejgbdclhlolkaaGreatDoor.quantAddsUp
namespace Go.Proofs.YtejgbdclhlolkaaGreatDoor
theorem quantAddsUp_holds : Rows.QuantAddsUpUptoCardSaid := quantAddsUp.card
end Go.Proofs.YtejgbdclhlolkaaGreatDoor
