/- What the statement LabelGoesBackCardSaid rests on, part 4 of 4: walks and plain laws. -/
import Derived.Test.YteaiobgnhlpblaaDoorRows
import Derived.Test.YteaiobgnhlpblaaDoorCards
import Derived.Test.YteaiobgnhlpblaaDoorTie
import Derived.Test.YteaiobgnhlpblaaDoorMLG1
import Derived.Test.YteaiobgnhlpblaaDoorMLG2
import Derived.Test.YteaiobgnhlpblaaDoorMLG3
import Derived.WalkKit
import Derived.ProofKit
import Derived.OpenShut
import Derived.ShutString
import Derived.ChangeOld
import Derived.Below
import Derived.SizedLaws
import Derived.Deep.DeepHandedRow
/- Split, Path, Line, Parent, Under: what the program's and the document's come to: the same. -/
namespace Go.Proofs.YteaiobgnhlpblaaDoor.Q
open Go.RowKit Go.Proofs.YteaiobgnhlpblaaDoorW.PrintWords Go.Proofs.YteaiobgnhlpblaaDoorW.PrintLast Go.Proofs.YteaiobgnhlpblaaDoor.Pl
set_option linter.unusedVariables false
set_option linter.unusedSimpArgs false

/-! ### strings.Split at one byte -/
theorem splitK_ne (c x : UInt8) (h : x ≠ c) (l : List UInt8) (k : Nat) : ∃ p r, Lib.splitK [c] 0 k l = p :: r ∧ Lib.splitK [c] 0 k (x :: l) = (x :: p) :: r := by
  cases k with
  | zero => exact ⟨l, [], rfl, rfl⟩
  | succ k =>
    have hp : ([c] : List UInt8).isPrefixOf (x :: l) = false := by simp [List.isPrefixOf, Ne.symm h]
    have hix : Lib.index (x :: l) [c] = if Lib.index l [c] == -1 then -1 else Lib.index l [c] + 1 := by rw [Lib.index, hp]; simp
    unfold Lib.splitK
    by_cases hm : (Lib.index l [c] == -1) = true
    · rw [hix, if_pos hm, if_pos hm]
      exact ⟨l, [], rfl, by rw [if_pos (by decide)]⟩
    · have hge := Lib.index_ge l [c]
      have hne : Lib.index l [c] ≠ -1 := fun e => hm (beq_iff_eq.2 e)
      obtain ⟨i, hi⟩ : ∃ i : Nat, Lib.index l [c] = i := ⟨(Lib.index l [c]).toNat, by omega⟩
      rw [hix, if_neg hm, if_neg hm, hi]
      refine ⟨_, _, rfl, ?_⟩
      rw [if_neg (by simp; omega), show ((i : Int) + 1).toNat = i + 1 by omega, Int.toNat_natCast]
      simp [Nat.add_right_comm]
theorem splitK_pcs (c : UInt8) (l : List UInt8) : Lib.splitK [c] 0 (Lib.count l [c]) l = pcs c l := by
  induction l with
  | nil => rw [Lib.count_miss (by simp [Lib.index])]; rfl
  | cons x l ih =>
    by_cases h : x = c
    · subst h
      rw [Lib.count_cons_eq, Nat.add_comm]
      have hix : Lib.index (x :: l) [x] = 0 := by rw [Lib.index]; simp [List.isPrefixOf]
      unfold Lib.splitK
      rw [hix, pcs_hit, ← ih]
      simp
    · rw [Lib.count_cons_ne x c l h]
      obtain ⟨p, r, h1, h2⟩ := splitK_ne c x h l (Lib.count l [c])
      obtain ⟨p', r', h3, h4⟩ := pcs_cons c x l h
      rw [h2, h4]
      rw [h1, h3] at ih
      rw [(List.cons.inj ih).1, (List.cons.inj ih).2]
theorem map_toB (l : List ByteArray) : (l.map (·.data.toList)).map toB = l := by
  simp [List.map_map, Function.comp_def, toB_of]
theorem split_some (s : ByteArray) (c : UInt8) (h : s.size < 4294967281) : strings_Split.f s (⟨#[c]⟩ : ByteArray) = some ((pcs c s.data.toList).map toB) := by
  unfold strings_Split.f
  rw [if_pos ⟨h, Nat.le_refl 1⟩, ← splitK_pcs c s.data.toList, ← map_toB (Lib.splitB _ _ _ _), Lib.splitB_data]

/-! ### Split -/
def splitS (s : ByteArray) : List ByteArray × Int :=
  if s.data.toList = [47] then ([], 0) else
  match s.data.toList with
  | [] => ([], 41)
  | c :: r => if c = 47 ∧ s.size ≤ 64 ∧ (pcs 47 r).length ≤ 8 ∧ (pcs 47 r).all nameL = true then ((pcs 47 r).map toB, 0) else ([], 41)
theorem rd_map (l : List (List UInt8)) (i : Nat) (h : i < l.length) : rdOf ByteArray.empty (l.map toB) (i : Int) = toB (l[i]'h) := by
  rw [rd_at _ i (by simpa using h)]; simp
theorem drop_at {α : Type} (l : List α) (i : Nat) (h : i < l.length) : l.drop i = l[i]'h :: l.drop (i + 1) := List.drop_eq_getElem_cons h
theorem rsloop (l : List (List UInt8)) (hl : l.length ≤ 2000000) (h1 : 1 ≤ l.length) (d : Nat) : ∀ i : Nat, i + d = l.length → 1 ≤ i →
    Ev (fun k => bursarref04_Split.l0 k (l.map toB) (i : Int)) (if (l.drop i).all nameL = true then ((l.drop 1).map toB, 0) else ([], 41)) := by
  induction d with
  | zero =>
    intro i hi _
    rw [List.drop_of_length_le (by omega)]
    refine Ev.step (f := fun _ => some ((l.drop 1).map toB, 0)) (fun k => ?_) (Ev.now _)
    simp only [bursarref04_Split.l0]
    rw [if_neg (by simp; omega), if_pos (by simp; omega)]
    simp
  | succ d ih =>
    intro i hi h0
    have hlt : i < l.length := by omega
    rw [drop_at l i hlt, List.all_cons]
    refine Ev.step (fun k => ?_) (Ev.bind (name_ev (toB l[i])) (f := fun k t => if t = true then bursarref04_Split.l0 k (l.map toB) ((i + 1 : Nat) : Int) else some ([], 41)) ?_)
    · simp only [bursarref04_Split.l0]
      rw [if_pos (by simp; omega), if_pos (by omega), rd_map l i hlt, w64 i (by omega)]
    · show Ev (fun k => if nameL l[i] = true then _ else _) _
      cases hn : nameL l[i] with
      | true =>
        have := ih (i + 1) (by omega) (by omega)
        simpa using this
      | false => simpa using Ev.now (([], 41) : List ByteArray × Int)
theorem refSplit_ev (s : ByteArray) (hs : s.size ≤ 1048576) : Ev (fun k => bursarref04_Split.f k s) (splitS s) := by
  have hbad : ∀ l, Ev (fun k => bursarref04_Split.j0 k l true) ([], 41) := fun l => Ev.step (f := fun _ => some ([], 41)) (fun k => by simp [bursarref04_Split.j0]) (Ev.now _)
  unfold splitS
  by_cases hr : s.data.toList = [47]
  · rw [if_pos hr]
    refine Ev.congr (f := fun _ => some ([], 0)) (fun k => ?_) (Ev.now _)
    unfold bursarref04_Split.f; rw [if_pos (lit_list.2 hr)]
  rw [if_neg hr]
  have hp := pieces_ev s 47 hs
  have hlen := pcs_length_le 47 s.data.toList
  rw [size_list] at hlen
  refine Ev.congr (f := fun k => (bursarref04_pieces.f k s 47).bind fun t => if (s.size : Int) > 64 then bursarref04_Split.j0 k t true else if (t.length : Int) < 2 then bursarref04_Split.j0 k t true else if (t.length : Int) > 9 then bursarref04_Split.j0 k t true else if 0 < (t.length : Int) then bursarref04_Split.j0 k t ((rdOf ByteArray.empty t 0).toList != ([] : List UInt8)) else none) (fun k => ?_) ?_
  · unfold bursarref04_Split.f; rw [if_neg (fun h => hr (lit_list.1 h))]
  refine Ev.bind hp ?_
  simp only [List.length_map]
  by_cases h64 : s.size > 64
  · rw [show (match s.data.toList with | [] => (([] : List ByteArray), (41 : Int)) | c :: r => if c = 47 ∧ s.size ≤ 64 ∧ (pcs 47 r).length ≤ 8 ∧ (pcs 47 r).all nameL = true then ((pcs 47 r).map toB, 0) else ([], 41)) = ([], 41) by
      cases s.data.toList with
      | nil => rfl
      | cons c r => exact if_neg (fun h => by omega)]
    refine Ev.congr (fun k => ?_) (hbad ((pcs 47 s.data.toList).map toB))
    rw [if_pos (by omega)]
  cases hl : s.data.toList with
  | nil =>
    refine Ev.congr (fun k => ?_) (hbad ((pcs 47 []).map toB))
    rw [if_neg (by omega), if_pos (by simp [pcs])]
  | cons c r =>
    by_cases hc : c = 47
    · subst hc
      rw [pcs_hit]
      have hn1 : 1 ≤ (pcs 47 r).length := by
        cases h : pcs 47 r with
        | nil => exact absurd h (pcs_ne _ _)
        | cons _ _ => simp
      by_cases h8 : (pcs 47 r).length ≤ 8
      · have h := rsloop ([] :: pcs 47 r) (by simp; omega) (by simp) (pcs 47 r).length 1 (by simp; omega) (by omega)
        simp only [List.drop_succ_cons, List.drop_zero] at h
        have e : (if (47 : UInt8) = 47 ∧ s.size ≤ 64 ∧ (pcs 47 r).length ≤ 8 ∧ (pcs 47 r).all nameL = true then ((pcs 47 r).map toB, (0 : Int)) else ([], 41)) = (if (pcs 47 r).all nameL = true then ((pcs 47 r).map toB, (0 : Int)) else ([], 41)) := by
          by_cases ha : (pcs 47 r).all nameL = true
          · rw [if_pos ⟨rfl, by omega, h8, ha⟩, if_pos ha]
          · rw [if_neg (fun h => ha h.2.2.2), if_neg ha]
        show Ev _ (if (47 : UInt8) = 47 ∧ s.size ≤ 64 ∧ (pcs 47 r).length ≤ 8 ∧ (pcs 47 r).all nameL = true then ((pcs 47 r).map toB, (0 : Int)) else ([], 41))
        rw [e]
        refine Ev.congr (f := fun k => bursarref04_Split.j0 k (([] :: pcs 47 r).map toB) false) (fun k => ?_) (Ev.step (fun k => ?_) h)
        · have e0 : ((rdOf ByteArray.empty (([] :: pcs 47 r).map toB) 0).toList != ([] : List UInt8)) = false := by
            have := rd_map ([] :: pcs 47 r) 0 (by simp)
            rw [show (0 : Int) = ((0 : Nat) : Int) from rfl, this, ByteArray.toList_eq]
            rfl
          rw [if_neg (by omega), if_neg (by simp; omega), if_neg (by simp; omega), if_pos (by simp), e0]
        · simp [bursarref04_Split.j0]
      · show Ev _ (if (47 : UInt8) = 47 ∧ s.size ≤ 64 ∧ (pcs 47 r).length ≤ 8 ∧ (pcs 47 r).all nameL = true then ((pcs 47 r).map toB, (0 : Int)) else ([], 41))
        rw [if_neg (fun h => h8 h.2.2.1)]
        refine Ev.congr (fun k => ?_) (hbad (([] :: pcs 47 r).map toB))
        rw [if_neg (by omega), if_neg (by simp; omega), if_pos (by simp; omega)]
    · show Ev _ (if c = 47 ∧ s.size ≤ 64 ∧ (pcs 47 r).length ≤ 8 ∧ (pcs 47 r).all nameL = true then ((pcs 47 r).map toB, (0 : Int)) else ([], 41))
      rw [if_neg (fun h => hc h.1)]
      obtain ⟨p, q, h1, h2⟩ := pcs_cons 47 c r hc
      rw [h2]
      by_cases hq2 : ((c :: p) :: q).length < 2
      · refine Ev.congr (fun k => ?_) (hbad (((c :: p) :: q).map toB))
        rw [if_neg (by omega), if_pos (by omega)]
      by_cases hq9 : ((c :: p) :: q).length > 9
      · refine Ev.congr (fun k => ?_) (hbad (((c :: p) :: q).map toB))
        rw [if_neg (by omega), if_neg (by omega), if_pos (by omega)]
      · refine Ev.congr (fun k => ?_) (hbad (((c :: p) :: q).map toB))
        have e0 : ((rdOf ByteArray.empty (((c :: p) :: q).map toB) 0).toList != ([] : List UInt8)) = true := by
          have := rd_map ((c :: p) :: q) 0 (by simp)
          rw [show (0 : Int) = ((0 : Nat) : Int) from rfl, this, ByteArray.toList_eq]
          rfl
        rw [if_neg (by omega), if_neg (by omega), if_neg (by omega), if_pos (by simp), e0]
end Go.Proofs.YteaiobgnhlpblaaDoor.Q
/- Split, Path, Line, Parent, Under: what the program's and the document's come to: the same (second part). -/
namespace Go.Proofs.YteaiobgnhlpblaaDoor.Q
open Go.RowKit Go.Proofs.YteaiobgnhlpblaaDoorW.PrintWords Go.Proofs.YteaiobgnhlpblaaDoorW.PrintLast Go.Proofs.YteaiobgnhlpblaaDoor.Pl
set_option linter.unusedVariables false
set_option linter.unusedSimpArgs false

theorem hasPrefix_lite (s p : ByteArray) : stringslite_HasPrefix.f s p = some (decide (p.data.toList <+: s.data.toList)) := by
  unfold stringslite_HasPrefix.f
  by_cases h : (s.size : Int) ≥ (p.size : Int)
  · rw [if_pos h, if_pos (by omega), if_pos (by omega)]
    congr 1
    rw [ByteArray.toList_eq, ByteArray.toList_eq, Int.toNat_natCast, ext_list, List.drop_zero, Bool.eq_iff_iff]
    simp only [beq_iff_eq, decide_eq_true_eq]
    rw [List.prefix_iff_eq_take, size_list]
    exact eq_comm
  · rw [if_neg h]
    congr 1
    rw [eq_comm, decide_eq_false_iff_not]
    intro hp
    have := hp.length_le
    rw [size_list, size_list] at this
    omega
theorem hasPrefix_some (s p : ByteArray) : strings_HasPrefix.f s p = some (decide (p.data.toList <+: s.data.toList)) := by
  unfold strings_HasPrefix.f
  rw [hasPrefix_lite]; rfl
theorem cutPrefix_yes (s p : ByteArray) (h : p.data.toList <+: s.data.toList) : strings_CutPrefix.f s p = some (toB (s.data.toList.drop p.size), true) := by
  have hle := h.length_le
  rw [size_list, size_list] at hle
  unfold strings_CutPrefix.f stringslite_CutPrefix.f
  rw [hasPrefix_lite, decide_eq_true h, Option.bind_some, if_pos rfl, if_pos (by omega), if_pos (by omega), Option.bind_some]
  simp only [Int.toNat_natCast]
  congr 2
  apply ba_ext
  rw [ext_list, toB_list, List.take_of_length_le (by rw [size_list]; omega)]
theorem cutPrefix_no (s p : ByteArray) (h : ¬ p.data.toList <+: s.data.toList) : strings_CutPrefix.f s p = some (s, false) := by
  unfold strings_CutPrefix.f stringslite_CutPrefix.f
  rw [hasPrefix_lite, decide_eq_false h, Option.bind_some, if_neg (by decide), Option.bind_some]

theorem lsloop (x6 : List ByteArray) (l : List (List UInt8)) (hl : l.length ≤ 2000000) (d : Nat) : ∀ i : Nat, i + d = l.length →
    Ev (fun k => label_Split.l0 k x6 (l.map toB) (l.length : Int) (i : Int)) (if (l.drop i).all nameL = true then (x6, 0) else ([], 41)) := by
  induction d with
  | zero =>
    intro i hi
    rw [List.drop_of_length_le (by omega)]
    refine Ev.step (f := fun _ => some (x6, 0)) (fun k => ?_) (Ev.now _)
    simp only [label_Split.l0]
    rw [if_neg (by omega)]
  | succ d ih =>
    intro i hi
    have hlt : i < l.length := by omega
    rw [drop_at l i hlt, List.all_cons]
    have e : label_Name.f (toB l[i]) = some (nameL l[i]) := rfl
    cases hn : nameL l[i] with
    | true =>
      rw [Bool.true_and]
      refine Ev.step (fun k => ?_) (ih (i + 1) (by omega))
      simp only [label_Split.l0]
      rw [if_pos (by omega), if_pos (by omega), if_pos (by simp; omega), rd_map l i hlt, e, hn, Option.bind_some, if_pos rfl, w64 i (by omega)]
    | false =>
      refine Ev.step (f := fun _ => some ([], 41)) (fun k => ?_) (Ev.now _)
      simp only [label_Split.l0]
      rw [if_pos (by omega), if_pos (by omega), if_pos (by simp; omega), rd_map l i hlt, e, hn, Option.bind_some, if_neg (by decide)]
theorem split_ev (s : ByteArray) : Ev (fun k => label_Split.f k s) (splitS s) := by
  have hbad : ∀ l, Ev (fun k => label_Split.j0 k l true) ([], 41) := fun l => Ev.step (f := fun _ => some ([], 41)) (fun k => by simp [label_Split.j0]) (Ev.now _)
  unfold splitS
  by_cases hr : s.data.toList = [47]
  · rw [if_pos hr]
    refine Ev.congr (f := fun _ => some ([], 0)) (fun k => ?_) (Ev.now _)
    unfold label_Split.f; rw [if_pos (lit_list.2 hr)]
  rw [if_neg hr]
  have hno : ∀ (h : ¬ (⟨#[47]⟩ : ByteArray).data.toList <+: s.data.toList), Ev (fun k => label_Split.f k s) ([], 41) := fun h => by
    refine Ev.congr (fun k => ?_) (hbad s)
    unfold label_Split.f; rw [if_neg (fun h => hr (lit_list.1 h)), cutPrefix_no s _ h, Option.bind_some, if_neg (by simp)]
  cases hl : s.data.toList with
  | nil => exact hno (by rw [hl]; simp)
  | cons c r =>
    show Ev _ (if c = 47 ∧ s.size ≤ 64 ∧ (pcs 47 r).length ≤ 8 ∧ (pcs 47 r).all nameL = true then ((pcs 47 r).map toB, (0 : Int)) else ([], 41))
    by_cases hc : c = 47
    rotate_left
    · rw [if_neg (fun h => hc h.1)]
      exact hno (by rw [hl]; intro h; simp at h; exact hc h.symm)
    subst hc
    have hcut := cutPrefix_yes s (⟨#[47]⟩ : ByteArray) (by rw [hl]; simp)
    have h1 : s.data.toList.drop (⟨#[47]⟩ : ByteArray).size = r := by rw [hl]; rfl
    rw [h1] at hcut
    by_cases h64 : s.size ≤ 64
    rotate_left
    · rw [if_neg (fun h => h64 h.2.1)]
      refine Ev.congr (fun k => ?_) (hbad (toB r))
      unfold label_Split.f
      rw [if_neg (fun h => hr (lit_list.1 h)), hcut, Option.bind_some, if_pos rfl, decide_eq_true (by omega)]
    have hsp := split_some (toB r) 47 (by rw [toB_size]; have := size_list s; rw [hl] at this; simp at this; omega)
    rw [toB_list] at hsp
    by_cases h8 : (pcs 47 r).length ≤ 8
    · have e : (if (47 : UInt8) = 47 ∧ s.size ≤ 64 ∧ (pcs 47 r).length ≤ 8 ∧ (pcs 47 r).all nameL = true then ((pcs 47 r).map toB, (0 : Int)) else ([], 41)) = (if (pcs 47 r).all nameL = true then ((pcs 47 r).map toB, (0 : Int)) else ([], 41)) := by
        by_cases ha : (pcs 47 r).all nameL = true
        · rw [if_pos ⟨rfl, h64, h8, ha⟩, if_pos ha]
        · rw [if_neg (fun h => ha h.2.2.2), if_neg ha]
      rw [e]
      have h := lsloop ((pcs 47 r).map toB) (pcs 47 r) (by omega) (pcs 47 r).length 0 (by omega)
      rw [List.drop_zero] at h
      refine Ev.congr (f := fun k => label_Split.j0 k (toB r) false) (fun k => ?_) (Ev.step (fun k => ?_) h)
      · unfold label_Split.f
        rw [if_neg (fun h => hr (lit_list.1 h)), hcut, Option.bind_some, if_pos rfl, decide_eq_false (by omega)]
      · simp only [label_Split.j0]
        rw [if_neg (by decide), hsp, Option.bind_some, if_neg (by simp; omega)]
        simp
    · rw [if_neg (fun h => h8 h.2.2.1)]
      refine Ev.congr (f := fun k => label_Split.j0 k (toB r) false) (fun k => ?_) (Ev.step (f := fun _ => some ([], 41)) (fun k => ?_) (Ev.now _))
      · unfold label_Split.f
        rw [if_neg (fun h => hr (lit_list.1 h)), hcut, Option.bind_some, if_pos rfl, decide_eq_false (by omega)]
      · simp only [label_Split.j0]
        rw [if_neg (by decide), hsp, Option.bind_some, if_pos (by simp; omega)]

/-! ### Path; what a path is -/
def pathS (s : ByteArray) : Int := (splitS s).2
theorem path_ev (s : ByteArray) : Ev (fun k => label_Path.f k s) (pathS s) :=
  Ev.congr (fun k => rfl) (Ev.bind (split_ev s) (f := fun (_ : Nat) (b : List ByteArray × Int) => some b.2) (Ev.now _))
theorem refPath_ev (s : ByteArray) (hs : s.size ≤ 1048576) : Ev (fun k => bursarref04_Path.f k s) (pathS s) :=
  Ev.congr (fun k => rfl) (Ev.bind (refSplit_ev s hs) (f := fun (_ : Nat) (b : List ByteArray × Int) => some b.2) (Ev.now _))
/-- These names make a path. -/
structure IsPath (s : ByteArray) (ns : List (List UInt8)) : Prop where
  list : s.data.toList = pathL ns
  most : ns.length ≤ 8
  size : s.size ≤ 64
  names : ns.all nameL = true
theorem IsPath.free {s : ByteArray} {ns : List (List UInt8)} (h : IsPath s ns) : ∀ p ∈ ns, (47 : UInt8) ∉ p := fun p hp => name_free (List.all_eq_true.1 h.names p hp)
theorem isPath_of (s : ByteArray) (ns : List (List UInt8)) (h : IsPath s ns) : splitS s = (ns.map toB, 0) := by
  unfold splitS
  cases ns with
  | nil => rw [h.list]; rfl
  | cons n ns =>
    have hl : s.data.toList = 47 :: (n ++ flat ns) := by rw [h.list]; unfold pathL; rw [if_neg (by simp), flat_cons]
    have hp : pcs 47 (n ++ flat ns) = n :: ns := pcs_of_names 47 n ns h.free
    have hn : n ≠ [] := by
      intro e
      have := List.all_eq_true.1 h.names n (by simp)
      rw [e] at this
      exact absurd this (by decide)
    rw [if_neg (by rw [hl]; intro e; simp at e; exact hn e.1), hl]
    show (if (47 : UInt8) = 47 ∧ s.size ≤ 64 ∧ (pcs 47 (n ++ flat ns)).length ≤ 8 ∧ (pcs 47 (n ++ flat ns)).all nameL = true then ((pcs 47 (n ++ flat ns)).map toB, (0 : Int)) else ([], 41)) = _
    rw [hp, if_pos ⟨rfl, h.size, h.most, h.names⟩]
theorem path_cases (s : ByteArray) : (∃ ns, IsPath s ns ∧ splitS s = (ns.map toB, 0)) ∨ ((∀ ns, ¬ IsPath s ns) ∧ splitS s = ([], 41)) := by
  by_cases h : ∃ ns, IsPath s ns
  · obtain ⟨ns, h⟩ := h
    exact .inl ⟨ns, h, isPath_of s ns h⟩
  · have hn : ∀ ns, ¬ IsPath s ns := fun ns hp => h ⟨ns, hp⟩
    refine .inr ⟨hn, ?_⟩
    unfold splitS
    by_cases hr : s.data.toList = [47]
    · exact absurd ⟨by rw [hr]; rfl, by simp, by rw [← size_list, hr]; simp, rfl⟩ (hn [])
    rw [if_neg hr]
    cases hl : s.data.toList with
    | nil => rfl
    | cons c r =>
      show (if c = 47 ∧ s.size ≤ 64 ∧ (pcs 47 r).length ≤ 8 ∧ (pcs 47 r).all nameL = true then ((pcs 47 r).map toB, (0 : Int)) else ([], 41)) = _
      by_cases hc : c = 47 ∧ s.size ≤ 64 ∧ (pcs 47 r).length ≤ 8 ∧ (pcs 47 r).all nameL = true
      · obtain ⟨rfl, h1, h2, h3⟩ := hc
        refine absurd ⟨?_, h2, h1, h3⟩ (hn (pcs 47 r))
        rw [hl]
        unfold pathL flat
        rw [if_neg (pcs_ne _ _), pcs_flat]
      · rw [if_neg hc]
end Go.Proofs.YteaiobgnhlpblaaDoor.Q
/- above, Join, Line, Parent, Under: the program's and the document's. -/
namespace Go.Proofs.YteaiobgnhlpblaaDoor.Q
open Go.RowKit Go.Proofs.YteaiobgnhlpblaaDoorW.PrintWords Go.Proofs.YteaiobgnhlpblaaDoorW.PrintLast Go.Proofs.YteaiobgnhlpblaaDoor.Pl
set_option linter.unusedVariables false
set_option linter.unusedSimpArgs false

theorem name_ne {n : List UInt8} (h : nameL n = true) : n ≠ [] := by
  intro e; rw [e] at h; exact absurd h (by decide)
theorem bang_list (s : ByteArray) (j : Nat) (h : j < s.size) : s.data[j]! = s.data.toList[j]'(by rw [size_list]; exact h) := by
  have h' : j < s.data.size := h
  rw [getElem!_pos s.data j h', Array.getElem_toList]
theorem last_stroke (s : ByteArray) (a n : List UInt8) (hs : s.data.toList = a ++ 47 :: n) (hn : (47 : UInt8) ∉ n) : Lib.lastIndexByte s 47 = (a.length : Int) := by
  have hsz := size_list s
  rw [hs] at hsz
  simp at hsz
  have hget : ∀ j (h : j < s.size), s.data[j]! = (a ++ 47 :: n)[j]'(by simp; omega) := fun j h => by
    rw [bang_list s j h]; congr 1
  rcases Lib.lastIndexByte_spec s 47 with ⟨_, h⟩ | ⟨i, hi, e, hc, hafter⟩
  · have := h a.length (by omega)
    rw [hget a.length (by omega)] at this
    simp at this
  · rw [e]
    rcases Nat.lt_trichotomy i a.length with h | h | h
    · have := hafter a.length h (by omega)
      rw [hget a.length (by omega)] at this
      simp at this
    · rw [h]
    · rw [hget i hi] at hc
      rw [List.getElem_append_right (by omega)] at hc
      obtain ⟨j, hj⟩ : ∃ j, i - a.length = j + 1 := ⟨i - a.length - 1, by omega⟩
      simp only [hj, List.getElem_cons_succ] at hc
      have : n[j]'(by omega) = 47 := UInt8.toNat_inj.1 (by rw [show (47 : UInt8).toNat = 47 from rfl]; omega)
      exact absurd (by rw [← this]; exact List.getElem_mem _) hn
theorem flat_snoc (ms : List (List UInt8)) (n : List UInt8) : flat (ms ++ [n]) = flat ms ++ 47 :: n := by rw [flat_append, flat_cons, flat_nil]; simp
theorem above_some (s : ByteArray) (ms : List (List UInt8)) (n : List UInt8) (h : IsPath s (ms ++ [n])) : label_above.f s = some (toB (pathL ms)) := by
  have hn : (47 : UInt8) ∉ n := h.free n (by simp)
  have hs : s.data.toList = flat ms ++ 47 :: n := by rw [h.list]; unfold pathL; rw [if_neg (by simp), flat_snoc]
  have hsz := size_list s
  rw [hs] at hsz
  simp at hsz
  have h64 := h.size
  have hl : strings_LastIndex.f s (⟨#[47]⟩ : ByteArray) = some ((flat ms).length : Int) := by
    unfold strings_LastIndex.f
    rw [if_pos ⟨rfl, by omega⟩]
    have : bt (⟨#[47]⟩ : ByteArray) 0 = 47 := by decide
    rw [this, last_stroke s _ n hs hn]
  unfold label_above.f
  rw [hl, Option.bind_some]
  unfold pathL
  by_cases hm : ms = []
  · subst hm
    rw [if_pos rfl, flat_nil]
    simp only [List.length_nil, mx]
    rw [if_pos (by decide), if_pos (by omega)]
    congr 1
    apply ba_ext
    rw [ext_list, hs, flat_nil]
    simp [toB]
  · rw [if_neg hm]
    have hpos : 1 ≤ (flat ms).length := by
      have h0 := flat_length ms
      cases ms with
      | nil => exact absurd rfl hm
      | cons _ _ => simp at h0; omega
    have hmx : mx 1 ((flat ms).length : Int) = ((flat ms).length : Int) := by unfold mx; split <;> omega
    rw [hmx, if_pos (by omega), if_pos (by omega)]
    congr 1
    apply ba_ext
    rw [ext_list, hs, Int.toNat_natCast, toB_list]
    simp

/-- The lines: of these names' first i, and all above. -/
def upto (ns : List (List UInt8)) : Nat → List ByteArray
  | 0 => [toB (pathL [])]
  | i + 1 => toB (pathL (ns.take (i + 1))) :: upto ns i
theorem upto_length (ns : List (List UInt8)) : ∀ i, (upto ns i).length = i + 1
  | 0 => rfl
  | i + 1 => by simp [upto, upto_length ns i]
theorem pathL_length_le (ns : List (List UInt8)) (i : Nat) (h : 1 ≤ i) : (pathL (ns.take i)).length ≤ (pathL ns).length := by
  unfold pathL
  by_cases hn : ns = []
  · subst hn; simp
  rw [if_neg hn]
  have hp : (flat (ns.take i)).length ≤ (flat ns).length := by
    conv => rhs; rw [← List.take_append_drop i ns, flat_append]
    simp
  split
  · rename_i h0
    cases ns with
    | nil => exact absurd rfl hn
    | cons a b => rw [flat_cons]; simp
  · exact hp
theorem isPath_take {s : ByteArray} {ns : List (List UInt8)} (h : IsPath s ns) (i : Nat) : IsPath (toB (pathL (ns.take i))) (ns.take i) := by
  refine ⟨toB_list _, by have := h.most; rw [List.length_take]; omega, ?_, ?_⟩
  · rw [toB_size]
    rcases Nat.eq_zero_or_pos i with h0 | h0
    · subst h0; simp [pathL]
    · have := pathL_length_le ns i h0
      have h1 := size_list s
      rw [h.list] at h1
      have := h.size
      omega
  · have := h.names
    rw [List.all_eq_true] at this ⊢
    exact fun x hx => this x (List.mem_of_mem_take hx)
theorem take_snoc (ns : List (List UInt8)) (i : Nat) (h : i < ns.length) : ns.take (i + 1) = ns.take i ++ [ns[i]'h] := List.take_succ_eq_append_getElem h
theorem pathL_ne_root {ns : List (List UInt8)} (hn : ns.all nameL = true) (h : ns ≠ []) : pathL ns ≠ [47] := by
  unfold pathL
  rw [if_neg h]
  cases ns with
  | nil => exact absurd rfl h
  | cons n ns =>
    rw [flat_cons]
    intro e
    have : n = [] := by simp at e; exact e.1
    exact name_ne (List.all_eq_true.1 hn n (by simp)) this
theorem lineloop (s : ByteArray) (ns : List (List UInt8)) (h : IsPath s ns) : ∀ (i : Nat) (acc : List ByteArray), i ≤ ns.length → acc.length + i ≤ 1000 →
    Ev (fun k => label_Line.l0 k (toB (pathL (ns.take i))) acc) (acc ++ (upto ns i).tail, 0) := by
  intro i
  induction i with
  | zero =>
    intro acc _ _
    refine Ev.step (f := fun _ => some (acc, 0)) (fun k => ?_) (by rw [show (upto ns 0).tail = [] from rfl, List.append_nil]; exact Ev.now _)
    simp only [label_Line.l0]
    exact if_pos (lit_list.2 rfl)
  | succ i ih =>
    intro acc hi ha
    have hp := isPath_take h (i + 1)
    have hne : pathL (ns.take (i + 1)) ≠ [47] := pathL_ne_root hp.names (by intro e; have h0 : (ns.take (i + 1)).length = 0 := (by rw [e]; rfl); rw [List.length_take] at h0; omega)
    have hab := above_some _ (ns.take i) (ns[i]'(by omega)) (by rw [← take_snoc ns i (by omega)]; exact hp)
    have := ih (acc ++ [toB (pathL (ns.take i))]) (by omega) (by simp; omega)
    have e : acc ++ [toB (pathL (ns.take i))] ++ (upto ns i).tail = acc ++ (upto ns (i + 1)).tail := by
      cases i with
      | zero => simp [upto]
      | succ i => simp [upto]
    rw [e] at this
    refine Ev.step (fun k => ?_) this
    simp only [label_Line.l0]
    rw [if_neg (fun h => hne (lit_list.1 h)), hab, Option.bind_some, if_pos (by omega)]
def lineS (s : ByteArray) : List ByteArray × Int := if (splitS s).2 = 0 then (upto ((splitS s).1.map (·.data.toList)) (splitS s).1.length, 0) else ([], (splitS s).2)
theorem map_list (ns : List (List UInt8)) : (ns.map toB).map (·.data.toList) = ns := by simp [List.map_map, Function.comp_def, toB_list]
theorem lineS_path {s : ByteArray} {ns : List (List UInt8)} (h : IsPath s ns) : lineS s = (upto ns ns.length, 0) := by
  unfold lineS
  rw [isPath_of s ns h, if_pos rfl, map_list, List.length_map]
theorem lineS_bad {s : ByteArray} (h : ∀ ns, ¬ IsPath s ns) : lineS s = ([], 41) := by
  rcases path_cases s with ⟨ns, h', _⟩ | ⟨_, e⟩
  · exact absurd h' (h ns)
  · unfold lineS; rw [e]; rfl
theorem pathS_path {s : ByteArray} {ns : List (List UInt8)} (h : IsPath s ns) : pathS s = 0 := by unfold pathS; rw [isPath_of s ns h]
theorem pathS_bad {s : ByteArray} (h : ∀ ns, ¬ IsPath s ns) : pathS s = 41 := by
  rcases path_cases s with ⟨ns, h', _⟩ | ⟨_, e⟩
  · exact absurd h' (h ns)
  · unfold pathS; rw [e]
theorem upto_head (ns : List (List UInt8)) (i : Nat) : upto ns i = toB (pathL (ns.take i)) :: (upto ns i).tail := by cases i <;> simp [upto]
theorem s_of {s : ByteArray} {ns : List (List UInt8)} (h : IsPath s ns) : s = toB (pathL ns) := by rw [← h.list, toB_of]
theorem line_ev (s : ByteArray) : Ev (fun k => label_Line.f k s) (lineS s) := by
  rcases path_cases s with ⟨ns, h, _⟩ | ⟨hb, _⟩
  · rw [lineS_path h]
    have hp := path_ev s
    rw [pathS_path h] at hp
    have hl := lineloop s ns h ns.length [s] (Nat.le_refl _) (by have := h.most; simp; omega)
    rw [List.take_length, ← s_of h] at hl
    have e : [s] ++ (upto ns ns.length).tail = upto ns ns.length := by
      conv => rhs; rw [upto_head, List.take_length, ← s_of h]
      rfl
    rw [e] at hl
    refine Ev.congr (fun k => rfl) (Ev.bind hp (f := fun k (t : Int) => if t = 0 then label_Line.l0 k s [s] else some ([], t)) ?_)
    simpa using hl
  · rw [lineS_bad hb]
    have hp := path_ev s
    rw [pathS_bad hb] at hp
    refine Ev.congr (fun k => rfl) (Ev.bind hp (f := fun k (t : Int) => if t = 0 then label_Line.l0 k s [s] else some ([], t)) ?_)
    simpa using Ev.now (([], 41) : List ByteArray × Int)

/-! ### Join -/
def joinS (ns : List (List UInt8)) : ByteArray × Int := if ns.all nameL = true then (if ns.length ≤ 8 ∧ (flat ns).length ≤ 64 then (toB (pathL ns), 0) else (⟨#[]⟩, 41)) else (⟨#[]⟩, 40)
theorem flat_take_le (ns : List (List UInt8)) (i : Nat) : (flat (ns.take i)).length ≤ (flat ns).length := by
  conv => rhs; rw [← List.take_append_drop i ns, flat_append]
  simp
theorem toB_app (a b : List UInt8) : toB a ++ toB b = toB (a ++ b) := by
  apply ba_ext
  rw [toB_list]
  simp [toB]
theorem rjloop (ns : List (List UInt8)) (hl : ns.length ≤ 2000000) (hb : (flat ns).length ≤ 4000000) (d : Nat) : ∀ i : Nat, i + d = ns.length → (ns.take i).all nameL = true →
    Ev (fun k => bursarref04_Join.l0 k (ns.map toB) (toB (flat (ns.take i))) (i : Int)) (joinS ns) := by
  induction d with
  | zero =>
    intro i hi hall
    have hi' : i = ns.length := by omega
    subst hi'
    rw [List.take_length] at hall ⊢
    unfold joinS
    rw [if_pos hall]
    by_cases h8 : ns.length ≤ 8
    · by_cases h64 : (flat ns).length ≤ 64
      · rw [if_pos ⟨h8, h64⟩]
        refine Ev.step (f := fun k => bursarref04_Join.j1 k (toB (flat ns)) false) (fun k => ?_) (Ev.step (f := fun _ => some (toB (pathL ns), 0)) (fun k => ?_) (Ev.now _))
        · simp only [bursarref04_Join.l0]
          rw [if_neg (by simp), if_neg (by simp; omega), decide_eq_false (by rw [toB_size]; omega)]
        · simp only [bursarref04_Join.j1]
          rw [if_neg (by decide)]
          unfold pathL
          by_cases hn : ns = []
          · subst hn
            exact (if_pos (lit_list.2 rfl)).trans rfl
          · rw [if_neg (fun e => by
              have e' := lit_list.1 e
              rw [toB_list] at e'
              have := flat_length ns
              rw [e'] at this
              cases ns with
              | nil => exact hn rfl
              | cons _ _ => simp at this), if_neg hn]
      · rw [if_neg (fun h => h64 h.2)]
        refine Ev.step (f := fun k => bursarref04_Join.j1 k (toB (flat ns)) true) (fun k => ?_) (Ev.step (f := fun _ => some (⟨#[]⟩, 41)) (fun k => ?_) (Ev.now _))
        · simp only [bursarref04_Join.l0]
          rw [if_neg (by simp), if_neg (by simp; omega), decide_eq_true (by rw [toB_size]; omega)]
        · simp [bursarref04_Join.j1]
    · rw [if_neg (fun h => h8 h.1)]
      refine Ev.step (f := fun k => bursarref04_Join.j1 k (toB (flat ns)) true) (fun k => ?_) (Ev.step (f := fun _ => some (⟨#[]⟩, 41)) (fun k => ?_) (Ev.now _))
      · simp only [bursarref04_Join.l0]
        rw [if_neg (by simp), if_pos (by simp; omega)]
      · simp [bursarref04_Join.j1]
  | succ d ih =>
    intro i hi hall
    have hlt : i < ns.length := by omega
    have hf1 := flat_take_le ns (i + 1)
    rw [take_snoc ns i hlt, flat_snoc] at hf1
    simp at hf1
    refine Ev.step (fun k => ?_) (Ev.bind (name_ev (toB ns[i])) (f := fun k t => if t = true then (if (toB (flat (ns.take i))).size + 1 ≤ 9223372036854775807 then (if ((toB (flat (ns.take i))) ++ (⟨#[47]⟩ : ByteArray)).size + (toB ns[i]).size ≤ 9223372036854775807 then bursarref04_Join.l0 k (ns.map toB) (((toB (flat (ns.take i))) ++ (⟨#[47]⟩ : ByteArray)) ++ (toB ns[i])) ((i + 1 : Nat) : Int) else none) else none) else some (⟨#[]⟩, 40)) ?_)
    · simp only [bursarref04_Join.l0]
      rw [if_pos (by simp; omega), if_pos (by omega), rd_map ns i hlt, w64 i (by omega)]
    · show Ev (fun k => if nameL ns[i] = true then _ else _) _
      cases hn : nameL ns[i] with
      | true =>
        have hall2 : (ns.take (i + 1)).all nameL = true := by rw [take_snoc ns i hlt, List.all_append, hall]; simp [hn]
        have := ih (i + 1) (by omega) hall2
        have e : ((toB (flat (ns.take i))) ++ (⟨#[47]⟩ : ByteArray)) ++ (toB ns[i]) = toB (flat (ns.take (i + 1))) := by
          rw [take_snoc ns i hlt, flat_snoc, show (⟨#[47]⟩ : ByteArray) = toB [47] from rfl, toB_app, toB_app]
          simp
        refine Ev.congr (fun k => ?_) this
        rw [if_pos rfl, if_pos (by rw [toB_size]; omega), if_pos (by rw [show (⟨#[47]⟩ : ByteArray) = toB [47] from rfl, toB_app, toB_size, toB_size]; simp; omega), e]
      | false =>
        have hna : ¬ ns.all nameL = true := by
          rw [List.all_eq_true]
          intro h
          have := h ns[i] (List.getElem_mem _)
          rw [hn] at this; cases this
        have : joinS ns = (⟨#[]⟩, 40) := by unfold joinS; rw [if_neg hna]
        rw [this]
        simpa using Ev.now ((⟨#[]⟩, 40) : ByteArray × Int)
theorem refJoin_ev (ns : List (List UInt8)) (hl : ns.length ≤ 2000000) (hb : (flat ns).length ≤ 4000000) : Ev (fun k => bursarref04_Join.f k (ns.map toB)) (joinS ns) :=
  rjloop ns hl hb ns.length 0 (by omega) rfl
end Go.Proofs.YteaiobgnhlpblaaDoor.Q
/- Line, Under, Parent, same texts: the document's answers, and that the program's are the same. -/
namespace Go.Proofs.YteaiobgnhlpblaaDoor.Q
open Go.RowKit Go.Proofs.YteaiobgnhlpblaaDoorW.PrintWords Go.Proofs.YteaiobgnhlpblaaDoorW.PrintLast Go.Proofs.YteaiobgnhlpblaaDoor.Pl
set_option linter.unusedVariables false
set_option linter.unusedSimpArgs false

theorem join_take {s : ByteArray} {ns : List (List UInt8)} (h : IsPath s ns) (i : Nat) : Ev (fun k => bursarref04_Join.f k ((ns.map toB).take i)) (toB (pathL (ns.take i)), 0) := by
  have hp := isPath_take h i
  have hf : (flat (ns.take i)).length ≤ 64 := by
    have h1 := hp.size
    rw [toB_size] at h1
    unfold pathL at h1
    split at h1
    · rename_i h0; rw [h0, flat_nil]; simp
    · exact h1
  have hj := refJoin_ev (ns.take i) (by have := hp.most; omega) (by omega)
  rw [List.map_take] at hj
  unfold joinS at hj
  rw [if_pos hp.names, if_pos ⟨hp.most, hf⟩] at hj
  exact hj
theorem rlineloop (s : ByteArray) (ns : List (List UInt8)) (h : IsPath s ns) : ∀ (i : Nat) (acc : List ByteArray), i ≤ ns.length → acc.length + i ≤ 1000 →
    Ev (fun k => bursarref04_Line.l0 k (ns.map toB) acc (i : Int)) (acc ++ upto ns i, 0) := by
  have hw : ∀ i : Nat, wrap64 (((i + 1 : Nat) : Int) - 1) = (i : Int) ∨ 1000 < i := fun i => by
    rcases Nat.lt_or_ge 1000 i with h | h
    · exact .inr h
    · left; unfold wrap64; omega
  intro i
  induction i with
  | zero =>
    intro acc _ ha
    refine Ev.step (fun k => ?_) (Ev.bind (join_take h 0) (f := fun k b => if acc.length < 8796093022208 then bursarref04_Line.l0 k (ns.map toB) (acc ++ [b.1]) (-1) else none) ?_)
    · simp only [bursarref04_Line.l0]
      rw [if_pos (by omega), if_pos (by omega), if_pos (by simp), show wrap64 (((0 : Nat) : Int) - 1) = -1 by unfold wrap64; omega]
      rfl
    · refine Ev.congr (f := fun k => bursarref04_Line.l0 k (ns.map toB) (acc ++ [toB (pathL (ns.take 0))]) (-1)) (fun k => if_pos (by omega)) ?_
      refine Ev.step (f := fun _ => some (acc ++ upto ns 0, 0)) (fun k => ?_) (Ev.now _)
      simp only [bursarref04_Line.l0]
      rw [if_neg (by omega)]
      rfl
  | succ i ih =>
    intro acc hi ha
    have hih := ih (acc ++ [toB (pathL (ns.take (i + 1)))]) (by omega) (by simp; omega)
    have e : acc ++ [toB (pathL (ns.take (i + 1)))] ++ upto ns i = acc ++ upto ns (i + 1) := by simp [upto]
    rw [e] at hih
    have hw' : wrap64 (((i + 1 : Nat) : Int) - 1) = (i : Int) := (hw i).elim id (fun h => by omega)
    refine Ev.step (fun k => ?_) (Ev.bind (join_take h (i + 1)) (f := fun k b => if acc.length < 8796093022208 then bursarref04_Line.l0 k (ns.map toB) (acc ++ [b.1]) (i : Int) else none) ?_)
    · simp only [bursarref04_Line.l0]
      rw [if_pos (by omega), if_pos (by omega), if_pos (by simp; omega), hw', Int.toNat_natCast]
    · exact Ev.congr (fun k => if_pos (by omega)) hih
theorem refLine_ev (s : ByteArray) (hs : s.size ≤ 1048576) : Ev (fun k => bursarref04_Line.f k s) (lineS s) := by
  rcases path_cases s with ⟨ns, h, hsp⟩ | ⟨hb, hsp⟩
  · rw [lineS_path h]
    have hp := refSplit_ev s hs
    rw [hsp] at hp
    have hl := rlineloop s ns h ns.length [] (Nat.le_refl _) (by have := h.most; simp; omega)
    rw [List.nil_append] at hl
    refine Ev.congr (fun k => rfl) (Ev.bind hp (f := fun k (b : List ByteArray × Int) => if b.2 = 0 then bursarref04_Line.l0 k b.1 [] (b.1.length : Int) else some ([], b.2)) ?_)
    simpa using hl
  · rw [lineS_bad hb]
    have hp := refSplit_ev s hs
    rw [hsp] at hp
    refine Ev.congr (fun k => rfl) (Ev.bind hp (f := fun k (b : List ByteArray × Int) => if b.2 = 0 then bursarref04_Line.l0 k b.1 [] (b.1.length : Int) else some ([], b.2)) ?_)
    simpa using Ev.now (([], 41) : List ByteArray × Int)

/-! ### Under -/
def underS (s t : ByteArray) : Bool := memB (lineS s).1 t
theorem ruloop (t : ByteArray) (l : List ByteArray) (hl : l.length ≤ 2000000) (d : Nat) : ∀ i : Nat, i + d = l.length → Ev (fun k => bursarref04_Under.l0 k t l (i : Int)) (memB (l.drop i) t) := by
  induction d with
  | zero =>
    intro i hi
    refine Ev.step (f := fun _ => some false) (fun k => ?_) (by rw [List.drop_of_length_le (by omega)]; exact Ev.now _)
    simp only [bursarref04_Under.l0]; rw [if_neg (by omega)]
  | succ d ih =>
    intro i hi
    have hlt : i < l.length := by omega
    rw [drop_at l i hlt]
    show Ev _ (decide (t = l[i]) || memB (l.drop (i + 1)) t)
    by_cases he : t = l[i]
    · rw [decide_eq_true he, Bool.true_or]
      refine Ev.step (f := fun _ => some true) (fun k => ?_) (Ev.now _)
      simp only [bursarref04_Under.l0]
      rw [if_pos (by omega), if_pos (by omega), rd_at l i hlt, if_pos ((ba_iff _ _).2 he.symm)]
    · rw [decide_eq_false he, Bool.false_or]
      refine Ev.step (fun k => ?_) (ih (i + 1) (by omega))
      simp only [bursarref04_Under.l0]
      rw [if_pos (by omega), if_pos (by omega), rd_at l i hlt, if_neg (fun h => he ((ba_iff _ _).1 h).symm), w64 i (by omega)]
theorem line_len (s : ByteArray) : (lineS s).1.length ≤ 9 := by
  rcases path_cases s with ⟨ns, h, _⟩ | ⟨hb, _⟩
  · rw [lineS_path h]; show (upto ns ns.length).length ≤ 9; rw [upto_length]; have := h.most; omega
  · rw [lineS_bad hb]; simp
theorem refUnder_ev (s t : ByteArray) (hs : s.size ≤ 1048576) : Ev (fun k => bursarref04_Under.f k s t) (underS s t) := by
  have h := ruloop t (lineS s).1 (by have := line_len s; omega) (lineS s).1.length 0 (by omega)
  rw [List.drop_zero] at h
  exact Ev.congr (fun k => rfl) (Ev.bind (refLine_ev s hs) (f := fun k (b : List ByteArray × Int) => bursarref04_Under.l0 k t b.1 0) h)
theorem mem_upto (ns : List (List UInt8)) (t : ByteArray) : ∀ i, t ∈ upto ns i ↔ ∃ j, j ≤ i ∧ t = toB (pathL (ns.take j)) := by
  intro i
  induction i with
  | zero =>
    constructor
    · intro h; exact ⟨0, Nat.le_refl _, by simpa [upto] using h⟩
    · rintro ⟨j, hj, rfl⟩
      have : j = 0 := by omega
      subst this; simp [upto]
  | succ i ih =>
    rw [upto, List.mem_cons, ih]
    constructor
    · rintro (h | ⟨j, hj, h⟩)
      · exact ⟨i + 1, Nat.le_refl _, h⟩
      · exact ⟨j, by omega, h⟩
    · rintro ⟨j, hj, h⟩
      rcases Nat.lt_or_ge j (i + 1) with h1 | h1
      · exact .inr ⟨j, by omega, h⟩
      · have : j = i + 1 := by omega
        subst this; exact .inl h
theorem pathL_inj {a b : List (List UInt8)} (ha : a.all nameL = true) (hb : b.all nameL = true) (h : pathL a = pathL b) : a = b := by
  by_cases h1 : a = []
  · subst h1
    by_cases h2 : b = []
    · exact h2.symm
    · exact absurd h.symm (pathL_ne_root hb h2)
  · by_cases h2 : b = []
    · subst h2; exact absurd h (pathL_ne_root ha h1)
    · unfold pathL at h
      rw [if_neg h1, if_neg h2] at h
      exact flat_inj a b (fun p hp => name_free (List.all_eq_true.1 ha p hp)) (fun p hp => name_free (List.all_eq_true.1 hb p hp)) h
theorem isPath_unique {s : ByteArray} {a b : List (List UInt8)} (ha : IsPath s a) (hb : IsPath s b) : a = b :=
  pathL_inj ha.names hb.names (by rw [← ha.list, hb.list])
theorem mem_line {s t : ByteArray} {ns ms : List (List UInt8)} (h : IsPath s ns) (ht : IsPath t ms) : t ∈ upto ns ns.length ↔ ms <+: ns := by
  rw [mem_upto]
  constructor
  · rintro ⟨j, hj, e⟩
    have := isPath_unique ht (by rw [e]; exact isPath_take h j)
    rw [this]; exact List.take_prefix _ _
  · intro hp
    refine ⟨ms.length, hp.length_le, ?_⟩
    rw [← List.prefix_iff_eq_take.1 hp]
    exact s_of ht
theorem under_ev (s t : ByteArray) (ht9 : t.size + 1 ≤ 9223372036854775807) : Ev (fun k => label_Under.f k s t) (underS s t) := by
  have hbody : ∀ (b : Bool) (hp : pathS s = 0) (hq : pathS t = 0) (hb : (if t.toList = ([47] : List UInt8) then some true else if s.toList = t.toList then some true else if t.size + 1 ≤ 9223372036854775807 then (strings_HasPrefix.f s (t ++ (⟨#[47]⟩ : ByteArray))).bind fun t285 => some t285 else none) = some b), Ev (fun k => label_Under.f k s t) b := fun b hp hq hb => by
    refine Ev.congr (fun k => rfl) (Ev.bind (path_ev s) (f := fun k (x : Int) => if x = 0 then (label_Path.f k t).bind fun y => (if y = 0 then (if t.toList = ([47] : List UInt8) then some true else if s.toList = t.toList then some true else if t.size + 1 ≤ 9223372036854775807 then (strings_HasPrefix.f s (t ++ (⟨#[47]⟩ : ByteArray))).bind fun t285 => some t285 else none) else some false) else some false) ?_)
    rw [hp]
    refine Ev.congr (fun k => if_pos rfl) (Ev.bind (path_ev t) ?_)
    rw [hq]
    refine Ev.congr (fun k => if_pos rfl) ?_
    rw [hb]
    exact Ev.now _
  have hno : (pathS s ≠ 0 ∨ pathS t ≠ 0) → Ev (fun k => label_Under.f k s t) false := fun h => by
    refine Ev.congr (fun k => rfl) (Ev.bind (path_ev s) (f := fun k (x : Int) => if x = 0 then (label_Path.f k t).bind fun y => (if y = 0 then (if t.toList = ([47] : List UInt8) then some true else if s.toList = t.toList then some true else if t.size + 1 ≤ 9223372036854775807 then (strings_HasPrefix.f s (t ++ (⟨#[47]⟩ : ByteArray))).bind fun t285 => some t285 else none) else some false) else some false) ?_)
    by_cases hp : pathS s = 0
    · have hq := h.resolve_left (fun h => h hp)
      rw [hp]
      refine Ev.congr (fun k => if_pos rfl) (Ev.bind (path_ev t) ?_)
      exact Ev.congr (fun k => if_neg hq) (Ev.now _)
    · exact Ev.congr (fun k => if_neg hp) (Ev.now _)
  unfold underS
  rcases path_cases s with ⟨ns, h, _⟩ | ⟨hb, _⟩
  rotate_left
  · rw [lineS_bad hb]
    exact hno (.inl (by rw [pathS_bad hb]; decide))
  rw [lineS_path h]
  rcases path_cases t with ⟨ms, h', _⟩ | ⟨hb, _⟩
  rotate_left
  · have hn : memB (upto ns ns.length) t = false := by
      cases hm : memB (upto ns ns.length) t with
      | false => rfl
      | true =>
        obtain ⟨j, _, e⟩ := (mem_upto ns t ns.length).1 ((memB_iff _ _).1 hm)
        exact absurd (by rw [e]; exact isPath_take h j) (hb (ns.take j))
    show Ev _ (memB (upto ns ns.length) t)
    rw [hn]
    exact hno (.inr (by rw [pathS_bad hb]; decide))
  show Ev _ (memB (upto ns ns.length) t)
  have hm : memB (upto ns ns.length) t = decide (ms <+: ns) := by
    rw [Bool.eq_iff_iff, memB_iff, mem_line h h', decide_eq_true_eq]
  rw [hm]
  refine hbody _ (pathS_path h) (pathS_path h') ?_
  by_cases hr : ms = []
  · subst hr
    have e0 : t.toList = ([47] : List UInt8) := lit_list.2 h'.list
    rw [if_pos e0, decide_eq_true List.nil_prefix]
  have hr' : ¬ t.toList = ([47] : List UInt8) := fun e => pathL_ne_root h'.names hr (by rw [← h'.list]; exact lit_list.1 e)
  rw [if_neg hr']
  by_cases he : ms = ns
  · subst he
    rw [if_pos (by rw [ba_iff, s_of h, s_of h']), decide_eq_true (List.prefix_refl _)]
  have he' : ¬ s.toList = t.toList := fun e => he (isPath_unique (by rw [(ba_iff _ _).1 e]; exact h') h)
  rw [if_neg he', if_pos (by omega), hasPrefix_some]
  show some _ = some _
  congr 1
  have hns : ns ≠ [] ∨ ns = [] := by by_cases h : ns = []; exact .inr h; exact .inl h
  have e1 : (t ++ (⟨#[47]⟩ : ByteArray)).data.toList = flat ms ++ [47] := by
    rw [s_of h', show (⟨#[47]⟩ : ByteArray) = toB [47] from rfl, toB_app, toB_list]
    unfold pathL; rw [if_neg hr]
  rw [e1, Bool.eq_iff_iff, decide_eq_true_eq, decide_eq_true_eq, h.list]
  rcases hns with hns | hns
  · unfold pathL
    rw [if_neg hns]
    exact ⟨flat_prefix ms ns h'.free h.free, fun hp => prefix_flat hp he⟩
  · subst hns
    constructor
    · intro hp
      have := hp.length_le
      have h2 := flat_length ms
      have : ms.length = 0 := by
        simp [pathL] at this
        cases ms with
        | nil => rfl
        | cons a b => simp at h2; rw [this] at h2; simp at h2
      exact absurd (List.eq_nil_of_length_eq_zero this) hr
    · intro hp
      exact absurd (List.prefix_nil.1 hp) hr

/-! ### Parent -/
def parentS (s : ByteArray) : ByteArray × Int := if (lineS s).2 = 0 then (if (lineS s).1.length = 1 then (⟨#[]⟩, 143) else (rdOf ByteArray.empty (lineS s).1 1, 0)) else (⟨#[]⟩, (lineS s).2)
theorem refParent_ev (s : ByteArray) (hs : s.size ≤ 1048576) : Ev (fun k => bursarref04_Parent.f k s) (parentS s) := by
  refine Ev.congr (fun k => rfl) (Ev.bind (refLine_ev s hs) (f := fun k (b : List ByteArray × Int) => if b.2 = 0 then (if (b.1.length : Int) = 1 then some ((⟨#[]⟩ : ByteArray), (143 : Int)) else if 1 < (b.1.length : Int) then some (rdOf ByteArray.empty b.1 1, 0) else none) else some (⟨#[]⟩, b.2)) ?_)
  unfold parentS
  rcases path_cases s with ⟨ns, h, _⟩ | ⟨hb, _⟩
  · rw [lineS_path h]
    by_cases h0 : ns.length + 1 = 1
    · refine Ev.congr (f := fun _ => some (⟨#[]⟩, 143)) (fun k => ?_) (by rw [if_pos rfl, if_pos (by rw [upto_length]; exact h0)]; exact Ev.now _)
      rw [if_pos rfl, if_pos (by rw [upto_length]; omega)]
    · refine Ev.congr (f := fun _ => some (rdOf ByteArray.empty (upto ns ns.length) 1, 0)) (fun k => ?_) (by rw [if_pos rfl, if_neg (by rw [upto_length]; exact h0)]; exact Ev.now _)
      rw [if_pos rfl, if_neg (by rw [upto_length]; omega), if_pos (by rw [upto_length]; omega)]
  · rw [lineS_bad hb]
    exact Ev.now _
theorem parentS_path {s : ByteArray} {ms : List (List UInt8)} {n : List UInt8} (h : IsPath s (ms ++ [n])) : parentS s = (toB (pathL ms), 0) := by
  unfold parentS
  rw [lineS_path h]
  rw [if_pos rfl, if_neg (by rw [upto_length]; simp)]
  have hlen : (ms ++ [n]).length = ms.length + 1 := by simp
  rw [hlen]
  have h1 : (ms ++ [n]).take (ms.length) = ms := by simp
  have e : upto (ms ++ [n]) (ms.length + 1) = toB (pathL ((ms ++ [n]).take (ms.length + 1))) :: upto (ms ++ [n]) ms.length := rfl
  rw [e]
  rw [upto_head (ms ++ [n]) ms.length, h1]
  rfl
theorem parent_ev (s : ByteArray) : Ev (fun k => label_Parent.f k s) (parentS s) := by
  refine Ev.congr (fun k => rfl) (Ev.bind (path_ev s) (f := fun k (x : Int) => if x = 0 then (if s.toList = ([47] : List UInt8) then some ((⟨#[]⟩ : ByteArray), (143 : Int)) else (label_above.f s).bind fun t => some (t, 0)) else some (⟨#[]⟩, x)) ?_)
  rcases path_cases s with ⟨ns, h, _⟩ | ⟨hb, _⟩
  · rw [pathS_path h]
    rcases List.eq_nil_or_concat ns with h0 | ⟨ms, n, h0⟩
    · subst h0
      have : parentS s = (⟨#[]⟩, 143) := by unfold parentS; rw [lineS_path h]; rfl
      rw [this]
      refine Ev.congr (f := fun _ => some (⟨#[]⟩, 143)) (fun k => ?_) (Ev.now _)
      have e0 : s.toList = ([47] : List UInt8) := lit_list.2 h.list
      rw [if_pos rfl, if_pos e0]
    · rw [List.concat_eq_append] at h0
      subst h0
      rw [parentS_path h]
      have hr' : ¬ s.toList = ([47] : List UInt8) := fun e => pathL_ne_root h.names (by simp) (by rw [← h.list]; exact lit_list.1 e)
      refine Ev.congr (f := fun _ => some (toB (pathL ms), 0)) (fun k => ?_) (Ev.now _)
      rw [if_pos rfl, if_neg hr', above_some s ms n h, Option.bind_some]
  · rw [pathS_bad hb]
    have : parentS s = (⟨#[]⟩, 41) := by unfold parentS; rw [lineS_bad hb]; rfl
    rw [this]
    exact Ev.congr (fun k => if_neg (by decide)) (Ev.now _)

/-! ### same texts -/
theorem stloop (l : List ByteArray) (hl : l.length ≤ 2000000) (d : Nat) : ∀ i : Nat, i + d = l.length → Ev (fun k => bursarlaw04_sameTexts.l0 k l l (i : Int)) true := by
  induction d with
  | zero =>
    intro i hi
    refine Ev.step (f := fun _ => some true) (fun k => ?_) (Ev.now _)
    simp only [bursarlaw04_sameTexts.l0]; rw [if_neg (by omega)]
  | succ d ih =>
    intro i hi
    refine Ev.step (fun k => ?_) (ih (i + 1) (by omega))
    simp only [bursarlaw04_sameTexts.l0]
    rw [if_pos (by omega), if_pos (by omega), if_pos (by omega), if_pos trivial, w64 i (by omega)]
theorem same_ev (l : List ByteArray) (hl : l.length ≤ 2000000) : Ev (fun k => bursarlaw04_sameTexts.f k l l) true :=
  Ev.congr (fun k => if_pos rfl) (stloop l hl l.length 0 (by omega))
end Go.Proofs.YteaiobgnhlpblaaDoor.Q
/- label.Join is the document's Join. -/
namespace Go.Proofs.YteaiobgnhlpblaaDoor.Q
open Go.RowKit Go.Proofs.YteaiobgnhlpblaaDoorW.PrintWords Go.Proofs.YteaiobgnhlpblaaDoorW.PrintLast Go.Proofs.YteaiobgnhlpblaaDoor.Pl
set_option linter.unusedVariables false
set_option linter.unusedSimpArgs false

theorem fixed_ev : Ev (fun k => bursarlaw04_fixed.f k) true := Ev.of (fun k => bursarlaw04_fixed.mono k) (k := 60) (by decide +kernel)
theorem lj1 (ns : List (List UInt8)) (hl : ns.length ≤ 8) (hn : ns.all nameL = true) (d : Nat) : ∀ i : Nat, i + d = ns.length →
    Ev (fun k => label_Join.l1 k (toB (flat (ns.take i))) (ns.map toB) (ns.length : Int) (i : Int)) (if (flat ns).length ≤ 64 then (toB (pathL ns), 0) else (⟨#[]⟩, 41)) := by
  have hb : (flat ns).length ≤ 400 := by
    have : ∀ l : List (List UInt8), l.all nameL = true → (flat l).length ≤ 33 * l.length := by
      intro l
      induction l with
      | nil => intro _; simp [flat]
      | cons n l ih =>
        intro h
        rw [List.all_cons, Bool.and_eq_true] at h
        have := ih h.2
        have hs := (name_size h.1).2
        rw [toB_size] at hs
        rw [flat_cons]
        simp; omega
    have := this ns hn
    omega
  induction d with
  | zero =>
    intro i hi
    have hi' : i = ns.length := by omega
    subst hi'
    rw [List.take_length]
    by_cases h64 : (flat ns).length ≤ 64
    · rw [if_pos h64]
      refine Ev.step (f := fun _ => some (toB (pathL ns), 0)) (fun k => ?_) (Ev.now _)
      simp only [label_Join.l1]
      rw [if_neg (by omega), if_neg (by rw [toB_size]; omega)]
      unfold pathL
      by_cases h0 : ns = []
      · subst h0
        exact (if_pos (lit_list.2 rfl)).trans rfl
      · rw [if_neg (fun e => by
          have e' := lit_list.1 e
          rw [toB_list] at e'
          have h1 := flat_length ns
          rw [e'] at h1
          cases ns with
          | nil => exact h0 rfl
          | cons _ _ => simp at h1), if_neg h0]
    · rw [if_neg h64]
      refine Ev.step (f := fun _ => some (⟨#[]⟩, 41)) (fun k => ?_) (Ev.now _)
      simp only [label_Join.l1]
      rw [if_neg (by omega), if_pos (by rw [toB_size]; omega)]
  | succ d ih =>
    intro i hi
    have hlt : i < ns.length := by omega
    have hf1 := flat_take_le ns (i + 1)
    rw [take_snoc ns i hlt, flat_snoc] at hf1
    simp at hf1
    have e0 : (⟨#[47]⟩ : ByteArray) ++ toB ns[i] = toB (47 :: ns[i]) := by rw [show (⟨#[47]⟩ : ByteArray) = toB [47] from rfl, toB_app]; rfl
    have e : toB (flat (ns.take i)) ++ toB (47 :: ns[i]) = toB (flat (ns.take (i + 1))) := by rw [toB_app, take_snoc ns i hlt, flat_snoc]
    refine Ev.step (fun k => ?_) (ih (i + 1) (by omega))
    simp only [label_Join.l1]
    rw [if_pos (by omega), if_pos (by omega), if_pos (by simp; omega), rd_map ns i hlt, if_pos (by rw [toB_size]; omega), e0, if_pos (by rw [toB_size, toB_size]; simp; omega), e, w64 i (by omega)]
theorem lj0 (ns : List (List UInt8)) (hl : ns.length ≤ 140737488355328) (d : Nat) : ∀ i : Nat, i + d = ns.length → (ns.take i).all nameL = true →
    Ev (fun k => label_Join.l0 k (ns.map toB) (⟨#[]⟩ : ByteArray) (ns.map toB) (ns.length : Int) (i : Int)) (joinS ns) := by
  induction d with
  | zero =>
    intro i hi hall
    have hi' : i = ns.length := by omega
    subst hi'
    rw [List.take_length] at hall
    unfold joinS
    rw [if_pos hall]
    by_cases h8 : ns.length ≤ 8
    · have h := lj1 ns h8 hall ns.length 0 (by omega)
      have e : (if ns.length ≤ 8 ∧ (flat ns).length ≤ 64 then (toB (pathL ns), (0 : Int)) else (⟨#[]⟩, 41)) = (if (flat ns).length ≤ 64 then (toB (pathL ns), (0 : Int)) else (⟨#[]⟩, 41)) := by
        by_cases h64 : (flat ns).length ≤ 64
        · rw [if_pos ⟨h8, h64⟩, if_pos h64]
        · rw [if_neg (fun h => h64 h.2), if_neg h64]
      rw [e]
      refine Ev.step (fun k => ?_) h
      simp only [label_Join.l0]
      rw [if_neg (by omega), if_neg (by simp; omega)]
      simp [flat_nil]
      rfl
    · rw [if_neg (fun h => h8 h.1)]
      refine Ev.step (f := fun _ => some (⟨#[]⟩, 41)) (fun k => ?_) (Ev.now _)
      simp only [label_Join.l0]
      rw [if_neg (by omega), if_pos (by simp; omega)]
  | succ d ih =>
    intro i hi hall
    have hlt : i < ns.length := by omega
    have e : label_Name.f (toB ns[i]) = some (nameL ns[i]) := rfl
    cases hn : nameL ns[i] with
    | true =>
      refine Ev.step (fun k => ?_) (ih (i + 1) (by omega) (by rw [take_snoc ns i hlt, List.all_append, hall]; simp [hn]))
      simp only [label_Join.l0]
      rw [if_pos (by omega), if_pos (by omega), if_pos (by simp; omega), rd_map ns i hlt, e, hn, Option.bind_some, if_pos rfl, w64 i (by omega)]
    | false =>
      have hna : ¬ ns.all nameL = true := by
        rw [List.all_eq_true]
        intro h
        have := h ns[i] (List.getElem_mem _)
        rw [hn] at this; cases this
      have : joinS ns = (⟨#[]⟩, 40) := by unfold joinS; rw [if_neg hna]
      rw [this]
      refine Ev.step (f := fun _ => some (⟨#[]⟩, 40)) (fun k => ?_) (Ev.now _)
      simp only [label_Join.l0]
      rw [if_pos (by omega), if_pos (by omega), if_pos (by simp; omega), rd_map ns i hlt, e, hn, Option.bind_some, if_neg (by decide)]
theorem join_ev (ns : List (List UInt8)) (hl : ns.length ≤ 140737488355328) : Ev (fun k => label_Join.f k (ns.map toB)) (joinS ns) := by
  have h := lj0 ns hl ns.length 0 (by omega) rfl
  refine Ev.congr (fun k => ?_) h
  unfold label_Join.f
  simp
end Go.Proofs.YteaiobgnhlpblaaDoor.Q
/- LabelGoesBack, its plain statement: of any two texts that memory can hold. -/
namespace Go.Proofs.YteaiobgnhlpblaaDoor.Pure
open Go.RowKit Go.Proofs.YteaiobgnhlpblaaDoorW.PrintWords Go.Proofs.YteaiobgnhlpblaaDoorW.PrintLast Go.Proofs.YteaiobgnhlpblaaDoor.Q Go.Proofs.YteaiobgnhlpblaaDoor.Pl
set_option linter.unusedVariables false
set_option linter.unusedSimpArgs false

theorem upto_get (ns : List (List UInt8)) : ∀ (i j : Nat), j ≤ i → (upto ns i)[j]? = some (toB (pathL (ns.take (i - j)))) := by
  intro i
  induction i with
  | zero => intro j hj; obtain rfl : j = 0 := by omega
            rfl
  | succ i ih =>
    intro j hj
    cases j with
    | zero => rfl
    | succ j => rw [upto, List.getElem?_cons_succ, ih j (by omega), show i + 1 - (j + 1) = i - j by omega]
theorem upto_rd (ns : List (List UInt8)) (i j : Nat) (h : j ≤ i) : rdOf ByteArray.empty (upto ns i) (j : Int) = toB (pathL (ns.take (i - j))) := by
  have hl : j < (upto ns i).length := by rw [upto_length]; omega
  rw [rd_at _ j hl]
  have := upto_get ns i j h
  rw [List.getElem?_eq_getElem hl] at this
  exact Option.some.inj this
theorem upto_take (ns : List (List UInt8)) (m : Nat) : ∀ i, i ≤ m → upto (ns.take m) i = upto ns i := by
  intro i
  induction i with
  | zero => intro _; rfl
  | succ i ih => intro hi; rw [upto, upto, ih (by omega), List.take_take, Nat.min_eq_left hi]
theorem join_path {s : ByteArray} {ns : List (List UInt8)} (h : IsPath s ns) : joinS ns = (s, 0) := by
  have hf : (flat ns).length ≤ 64 := by
    have h1 := h.size
    rw [s_of h, toB_size] at h1
    unfold pathL at h1
    split at h1
    · rename_i h0; rw [h0, flat_nil]; simp
    · exact h1
  unfold joinS
  rw [if_pos h.names, if_pos ⟨h.most, hf⟩, ← s_of h]
theorem under_self {s : ByteArray} {ns : List (List UInt8)} (h : IsPath s ns) (j : Nat) : underS s (toB (pathL (ns.take j))) = true := by
  unfold underS
  rw [lineS_path h, memB_iff, mem_upto]
  rcases Nat.lt_or_ge ns.length j with hj | hj
  · exact ⟨ns.length, Nat.le_refl _, by rw [List.take_length, List.take_of_length_le (by omega)]⟩
  · exact ⟨j, hj, rfl⟩
theorem under_not {s : ByteArray} {ns : List (List UInt8)} (h : IsPath s ns) (j : Nat) (hj : j < ns.length) : underS (toB (pathL (ns.take j))) s = false := by
  rw [Bool.eq_false_iff]
  intro hh
  unfold underS at hh
  rw [lineS_path (isPath_take h j), memB_iff, mem_upto] at hh
  obtain ⟨i, _, e⟩ := hh
  rw [s_of h] at e
  have := pathL_inj h.names ((isPath_take (isPath_take h j) i).names) (toB_inj e)
  have := congrArg List.length this
  simp at this
  omega
theorem under_bad_left {s : ByteArray} (h : ∀ ns, ¬ IsPath s ns) (t : ByteArray) : underS s t = false := by
  unfold underS; rw [lineS_bad h]; rfl
theorem under_bad_right {s : ByteArray} (h : ∀ ns, ¬ IsPath s ns) (t : ByteArray) : underS t s = false := by
  rcases path_cases t with ⟨ms, ht, _⟩ | ⟨ht, _⟩
  · rw [Bool.eq_false_iff]
    intro hh
    unfold underS at hh
    rw [lineS_path ht, memB_iff, mem_upto] at hh
    obtain ⟨i, _, e⟩ := hh
    exact h _ (e ▸ isPath_take ht i)
  · exact under_bad_left ht s
theorem small_path {s : ByteArray} {ns : List (List UInt8)} (h : IsPath s ns) : s.size + 1 ≤ 9223372036854775807 := by have := h.size; omega

theorem gb_l1 (a b : ByteArray) (hb : b.size ≤ 140737488351232) (ns : List (List UInt8)) (h : IsPath a ns) (d : Nat) : ∀ i : Nat, i + d = ns.length →
    Ev (fun k => bursarlaw04_LabelGoesBack.l1 k a b (ns.map toB) (underS a b) (i : Int)) true := by
  have hm := h.most
  induction d with
  | zero =>
    intro i hi
    refine Ev.step (fun k => ?_) (Ev.bind (under_ev a b (by omega)) (f := fun _ t => some (t == underS a b)) (by rw [beq_self_eq_true]; exact Ev.now true))
    simp only [bursarlaw04_LabelGoesBack.l1]
    rw [if_neg (by simp; omega)]
  | succ d ih =>
    intro i hi
    have hlt : i < ns.length := by omega
    refine Ev.step (fun k => ?_) (ih (i + 1) (by omega))
    simp only [bursarlaw04_LabelGoesBack.l1]
    rw [if_pos (by simp; omega), if_pos (by omega), rd_map ns i hlt, show label_Name.f (toB ns[i]) = some (nameL ns[i]) from rfl, List.all_eq_true.1 h.names _ (List.getElem_mem _), Option.bind_some, if_pos rfl, w64 i (by omega)]
theorem gb_l0 (a b : ByteArray) (hb : b.size ≤ 140737488351232) (ns : List (List UInt8)) (h : IsPath a ns) (d : Nat) : ∀ i : Nat, i + d = ns.length + 1 →
    Ev (fun k => bursarlaw04_LabelGoesBack.l0 k a b (ns.map toB) (upto ns ns.length) (memB ((upto ns ns.length).take i) b) (i : Int)) true := by
  have hm := h.most
  induction d with
  | zero =>
    intro i hi
    have e : (upto ns ns.length).take i = upto ns ns.length := List.take_of_length_le (by rw [upto_length]; omega)
    have e2 : memB (upto ns ns.length) b = underS a b := by unfold underS; rw [lineS_path h]
    rw [e, e2]
    refine Ev.step (fun k => ?_) (gb_l1 a b hb ns h ns.length 0 (by omega))
    simp only [bursarlaw04_LabelGoesBack.l0]
    rw [if_neg (by rw [upto_length]; omega)]
    rfl
  | succ d ih =>
    intro i hi
    have hl : i < (upto ns ns.length).length := by rw [upto_length]; omega
    have hrd := upto_rd ns ns.length i (by omega)
    have hg : (upto ns ns.length)[i] = toB (pathL (ns.take (ns.length - i))) := by rw [← rd_at _ i hl, hrd]
    have hih := ih (i + 1) (by omega)
    have hmem : memB ((upto ns ns.length).take (i + 1)) b = (memB ((upto ns ns.length).take i) b || decide (b = toB (pathL (ns.take (ns.length - i))))) := by
      rw [List.take_succ_eq_append_getElem hl, hg]
      unfold memB
      rw [List.any_append]
      simp
    have hj3 : Ev (fun k => bursarlaw04_LabelGoesBack.j3 k a b (ns.map toB) (upto ns ns.length) (memB ((upto ns ns.length).take (i + 1)) b) (i : Int)) true := by
      have hsz : (toB (pathL (ns.take (ns.length - i)))).size + 1 ≤ 9223372036854775807 := small_path (isPath_take h _)
      refine Ev.step (f := fun k => (label_Under.f k a (toB (pathL (ns.take (ns.length - i))))).bind fun t475 => (if t475 = true then (if (i : Int) > 0 then ((label_Under.f k (toB (pathL (ns.take (ns.length - i)))) a).bind fun t477 => (if t477 = true then (some false) else (bursarlaw04_LabelGoesBack.l0 k a b (ns.map toB) (upto ns ns.length) (memB ((upto ns ns.length).take (i + 1)) b) ((i + 1 : Nat) : Int)))) else (bursarlaw04_LabelGoesBack.l0 k a b (ns.map toB) (upto ns ns.length) (memB ((upto ns ns.length).take (i + 1)) b) ((i + 1 : Nat) : Int))) else (some false))) (fun k => ?_) ?_
      · simp only [bursarlaw04_LabelGoesBack.j3]
        rw [if_pos (by omega), if_pos (by rw [upto_length]; omega), hrd, w64 i (by omega)]
      · refine Ev.bind (under_ev a _ hsz) ?_
        rw [under_self h]
        refine Ev.congr (fun k => if_pos rfl) ?_
        by_cases h0 : i = 0
        · refine Ev.congr (fun k => if_neg (by omega)) ?_
          exact hih
        · refine Ev.congr (fun k => if_pos (by omega)) ?_
          refine Ev.bind (under_ev _ a (small_path h)) ?_
          rw [under_not h _ (by omega)]
          exact Ev.congr (fun k => if_neg (by decide)) hih
    refine Ev.step (fun k => ?_) hj3
    simp only [bursarlaw04_LabelGoesBack.l0]
    rw [if_pos (by rw [upto_length]; omega)]
    cases hc : memB ((upto ns ns.length).take i) b with
    | true => rw [if_pos rfl, hmem, hc, Bool.true_or]
    | false =>
      rw [if_neg (by decide), if_pos (by omega), hrd, hmem, hc, Bool.false_or]
      congr 1
      rw [Bool.eq_iff_iff, beq_iff_eq, decide_eq_true_iff, ba_iff, eq_comm]
theorem gb_j0 (a b : ByteArray) (hb : b.size ≤ 140737488351232) (ns : List (List UInt8)) (h : IsPath a ns) :
    Ev (fun k => bursarlaw04_LabelGoesBack.j0 k a b (ns.map toB) (upto ns ns.length) (parentS a).1 (parentS a).2 false) true := by
  have hm := h.most
  have h1 : Ev (fun k => bursarlaw04_LabelGoesBack.j1 k a b (ns.map toB) (upto ns ns.length)) true :=
    Ev.step (fun k => by simp only [bursarlaw04_LabelGoesBack.j1]; rfl) (gb_l0 a b hb ns h (ns.length + 1) 0 (by omega))
  rcases List.eq_nil_or_concat ns with rfl | ⟨ms, n, rfl⟩
  · have hp : parentS a = (⟨#[]⟩, 143) := by unfold parentS; rw [lineS_path h]; rfl
    rw [hp]
    refine Ev.step (fun k => ?_) h1
    simp only [bursarlaw04_LabelGoesBack.j0]
    rw [if_neg (by decide), if_pos (by rfl), if_pos (by trivial), if_pos (lit_list.2 rfl)]
  · rw [List.concat_eq_append] at *
    rw [parentS_path h]
    have hp := isPath_take h ms.length
    rw [List.take_left] at hp
    have e : (upto (ms ++ [n]) (ms ++ [n]).length).drop 1 = upto ms ms.length := by
      have : (ms ++ [n]).length = ms.length + 1 := by simp
      rw [this, upto]
      show upto (ms ++ [n]) ms.length = _
      rw [← upto_take (ms ++ [n]) ms.length ms.length (Nat.le_refl _), List.take_left]
    refine Ev.step (f := fun k => (label_Line.f k (toB (pathL ms))).bind fun bt464 => if bt464.2 = 0 then ((bursarlaw04_sameTexts.f k bt464.1 (upto ms ms.length)).bind fun t472 => if t472 = true then bursarlaw04_LabelGoesBack.j1 k a b ((ms ++ [n]).map toB) (upto (ms ++ [n]) (ms ++ [n]).length) else some false) else some false) (fun k => ?_) ?_
    · simp only [bursarlaw04_LabelGoesBack.j0]
      rw [if_neg (by decide), if_neg (by simp; omega)]
      congr 1
      funext x
      rw [e, if_pos trivial, if_pos (show (1 : Int) ≤ ((upto (ms ++ [n]) (ms ++ [n]).length).length : Int) by rw [upto_length]; omega)]
    · refine Ev.bind (line_ev _) ?_
      rw [lineS_path hp]
      refine Ev.congr (fun k => if_pos rfl) ?_
      refine Ev.bind (same_ev _ (by rw [upto_length]; simp at hm; omega)) ?_
      exact Ev.congr (fun k => if_pos rfl) h1
theorem LabelGoesBack (a b : ByteArray) (ha : a.size ≤ 140737488351232) (hb : b.size ≤ 140737488351232) : ∃ k, bursarlaw04_LabelGoesBack.f k a b = some true := by
  refine Ev.rounds ?_
  refine Ev.congr (fun k => rfl) (Ev.bind fixed_ev (f := fun k t445 => _) ?_)
  refine Ev.congr (fun k => if_pos rfl) ?_
  refine Ev.bind (split_ev a) ?_
  rcases path_cases a with ⟨ns, h, e⟩ | ⟨hbad, e⟩
  · rw [e]
    have hm := h.most
    refine Ev.congr (fun k => if_pos rfl) ?_
    refine Ev.bind (join_ev ns (by omega)) ?_
    rw [join_path h]
    refine Ev.bind (line_ev a) ?_
    rw [lineS_path h]
    refine Ev.bind (parent_ev a) ?_
    have hr0 : rdOf ByteArray.empty (upto ns ns.length) 0 = a := by
      have := upto_rd ns ns.length 0 (by omega)
      rw [Nat.sub_zero, List.take_length, ← s_of h] at this
      exact this
    have hrn : rdOf ByteArray.empty (upto ns ns.length) (ns.length : Int) = toB [47] := by
      have := upto_rd ns ns.length ns.length (by omega)
      rw [Nat.sub_self] at this
      exact this
    have hw : wrap64 (((ns.length + 1 : Nat) : Int) - 1) = (ns.length : Int) := by unfold wrap64; omega
    refine Ev.congr (fun k => if_pos rfl) (Ev.congr (fun k => if_pos rfl) (Ev.congr (fun k => if_pos rfl) ?_))
    refine Ev.congr (fun k => if_pos (by rw [upto_length, List.length_map, w64 _ (by omega)])) ?_
    refine Ev.congr (fun k => if_pos (by rw [upto_length]; omega)) ?_
    refine Ev.congr (fun k => if_pos (by rw [hr0])) ?_
    rw [upto_length, hw]
    refine Ev.congr (fun k => if_pos (by omega)) (Ev.congr (fun k => if_pos (by omega)) ?_)
    refine Ev.congr (fun k => if_pos (by rw [hrn]; exact lit_list.2 rfl)) ?_
    refine Ev.bind (path_ev a) ?_
    rw [pathS_path h]
    exact gb_j0 a b hb ns h
  · rw [e]
    refine Ev.congr (fun k => if_neg (by decide)) (Ev.congr (fun k => if_pos rfl) ?_)
    refine Ev.bind (path_ev a) ?_
    rw [pathS_bad hbad]
    refine Ev.congr (fun k => if_pos rfl) (Ev.congr (fun k => if_pos rfl) ?_)
    refine Ev.bind (under_ev a b (by omega)) ?_
    rw [under_bad_left hbad]
    refine Ev.congr (fun k => if_neg (by decide)) ?_
    refine Ev.bind (under_ev b a (by omega)) ?_
    rw [under_bad_right hbad]
    exact Ev.now _
end Go.Proofs.YteaiobgnhlpblaaDoor.Pure
/- bursar/bursarlaw04.LabelGoesBack, every input: the row and its tied card, out of its plain statement (YteaiobgnhlpblaaDoorEPLabelGoesBack) and the walk. -/
namespace Go.Proofs.YteaiobgnhlpblaaDoor.labelGoesBack
open Go.ChangeShapes Go.WideShapes Go.ChangeAt Go.RowKit
open Go.ChangeMaps (open_string shut_string)
set_option linter.unusedVariables false
set_option linter.unusedSimpArgs false
theorem own : ownKnob Tryd.prog.godebug = none := by kernel_rfl
theorem contract (H : Type) (enc : TypeId × Value → H) (W : World) (base : Nat) (args : Array Value) (ds gs : List (DataW H)) (before : List MemPlace)
    (hval0 : ∀ (j : Nat) t v, Tryd.f9.params[j]? = some t → args[j]? = some v → Value.okWide Tryd.prog W .any base t v)
    (hW : DataW.Whole enc Tryd.prog Tryd.f9.params.toList Rows.labelGoesBackSpec.vars false W args.toList ds gs before)
    (hsz0 : (DataW.weightsEach Tryd.prog (Tryd.f9.params.toList ++ (OpenSpec.ofChange Rows.labelGoesBackSpec).bare.plain.varTypes Tryd.prog) (ds ++ gs)).all (· ≤ reachBytes) = true)
    (hsh : W.ShapedOpen Tryd.prog)
    : Calls Tryd.prog 9 args W fun e W' => ∃ v, e = .returned v ∧ Rows.labelGoesBackSpec.post enc Tryd.prog Tryd.f9 false true false false W args v W' := by
  have hsz : (DataW.weightsEach Tryd.prog (Tryd.f9.params.toList ++ Rows.labelGoesBackSpec.plain.varTypes Tryd.prog) (ds ++ gs)).all (· ≤ reachBytes) = true := hsz0
  have hval : ∀ (j : Nat) t v, Tryd.f9.params[j]? = some t → args[j]? = some v → Value.okWide Tryd.prog W .any base t v := hval0
  have hW' := hW
  obtain ⟨p, q, hA0, hV, rfl, hfz, hnd⟩ := hW
  have hA : DataW.TrodAll enc Tryd.prog W 0 (fun _ => true) true Tryd.f9.params.toList args.toList ds p := hA0
  rw [Tryd.params9] at hA hval hsz
  obtain ⟨v0, vs0, d0, ds0, p0, q0, hargs, rfl, rfl, h0, r0⟩ := trodAll_cons hA
  obtain ⟨v1, vs1, d1, ds1, p1, q1, rfl, rfl, rfl, h1, r1⟩ := trodAll_cons r0
  obtain ⟨rfl, rfl, rfl⟩ := trodAll_nil r1
  obtain rfl : args = #[v0, v1] := by cases args; simp_all
  obtain ⟨rfl, rfl⟩ := trodVars_none hV
  obtain ⟨a0, rfl, rfl, rfl, y0⟩ := open_string Tryd.underlying9 (hval 0 9 v0 rfl rfl) h0
  have w0 : a0.size ≤ 140737488351232 := by
    have z := sized_string hsz (j := 0) (t := 9) rfl rfl
    rw [Array.length_toList] at z
    exact z
  obtain ⟨a1, rfl, rfl, rfl, y1⟩ := open_string Tryd.underlying9 (hval 1 9 v1 rfl rfl) h1
  have w1 : a1.size ≤ 140737488351232 := by
    have z := sized_string hsz (j := 1) (t := 9) rfl rfl
    rw [Array.length_toList] at z
    exact z
  obtain ⟨k, hp⟩ := Pure.LabelGoesBack a0 a1 w0 w1
  refine (Q.bursarlaw04_LabelGoesBack.calls k a0 a1 true W  hp ⟨Tryd.laysM146.s1_3 W hsh⟩).mono fun e W' ⟨he, bel⟩ => ?_
  subst he
  exact ⟨_, rfl, _, _, _, [], _, [], hW', trodAll_mk1 (shut_bool Tryd.underlying4 _), (trodAll_cons_mk (shut_string Tryd.underlying9 y0) (trodAll_cons_mk (shut_string Tryd.underlying9 y1) trodAll_mk0)), rfl, bel.frame _, fun h => by cases h⟩
noncomputable def tab1 : Obj → Obj
  | .cells _ t frozen => .cells (Go.Pinned.utf8FirstZ.map fun (n : Nat) => Value.int .u8 (n : Int)).toArray t frozen
  | o => o
noncomputable def tab2 : Obj → Obj
  | .cells _ t frozen => .cells #[.int .u8 128, .int .u8 191, .int .u8 160, .int .u8 191, .int .u8 128, .int .u8 159, .int .u8 144, .int .u8 191, .int .u8 128, .int .u8 143, .int .u8 0, .int .u8 0, .int .u8 0, .int .u8 0, .int .u8 0, .int .u8 0, .int .u8 0, .int .u8 0, .int .u8 0, .int .u8 0, .int .u8 0, .int .u8 0, .int .u8 0, .int .u8 0, .int .u8 0, .int .u8 0, .int .u8 0, .int .u8 0, .int .u8 0, .int .u8 0, .int .u8 0, .int .u8 0] t frozen
  | o => o
/-- A world for the witness: the settled one, utf8's two tables laid. -/
noncomputable def laidWorld (os : Os) : World :=
  { World.holding Tryd.prog os ⟨#[], #[], []⟩ with heap := ((World.holding Tryd.prog os ⟨#[], #[], []⟩).heap.modify 1 tab1).modify 2 tab2 }
theorem laid_met (os : Os) : laidMet Tryd.prog Rows.labelGoesBackRow.laid ((laidWorld os).forCall (fun _ _ => 0) ⟨#[], #[.string ByteArray.empty, .string ByteArray.empty], []⟩).memory :=
  laidMet_of_run' 8 (by kernel_rfl) (by kernel_rfl)
theorem reads (os : Os) {H : Type} (enc : TypeId × Value → H) : ∃ places, DataW.whole enc Tryd.prog ((laidWorld os).forCall (fun _ _ => 0) ⟨#[], #[.string ByteArray.empty, .string ByteArray.empty], []⟩).memory Tryd.f9.params.toList Rows.labelGoesBackSpec.vars false (#[.string ByteArray.empty, .string ByteArray.empty] : Array Value).toList 8 = some ([.lit (.string []), .lit (.string [])], [], places) :=
  ⟨[], by kernel_rfl⟩

set_option maxRecDepth 100000 in
theorem lifted (os : Os) (started : os.Started) (H : Type) (enc : TypeId × Value → H) (F : Stop.Interp) :
    ReturnsInHanded {} Tryd.checked os 9 .any ((OpenSpec.ofChange Rows.labelGoesBackSpec).preRow enc Tryd.prog Tryd.f9 Rows.labelGoesBackRow.domain false Rows.labelGoesBackRow.laid) (((OpenSpec.ofChange Rows.labelGoesBackSpec).at F).post enc Tryd.prog Tryd.f9 false true false false) := by
  obtain ⟨places, hx⟩ := reads os enc
  refine returnsInHanded_of_row (C := Tryd.checked) (s := OpenSpec.ofChange Rows.labelGoesBackSpec) own started (by kernel_rfl) Tryd.func9
    (witness_row_at (enc := enc) (C := Tryd.checked) false (laidWorld os) #[.string ByteArray.empty, .string ByteArray.empty] rfl (by kernel_rfl) (by kernel_rfl) (by kernel_rfl)
      (OpenSpec.preRow_of_cond 8 hx (by kernel_rfl) (fun k hk => by cases hk) (by kernel_rfl) (laid_met os))) ?_
  intro W base args ds gs before hval hW _ hcond hsz _ hsh _
  exact contract H enc W base args ds gs before hval hW hsz hsh
theorem said : Rows.LabelGoesBackSaid :=
  OpenClaim.holds_of_cond 9 Tryd.f9 rfl rfl rfl rfl rfl rfl rfl ⟨rfl, rfl, rfl, rfl, rfl⟩ rfl rfl rfl rfl rfl (by kernel_rfl) Tryd.func9 (by kernel_rfl)
    (of_decide_eq_true (by kernel_rfl)) (by unfold Func.isWrapper; first | (rw [if_pos (by decide +kernel)]; kernel_rfl) | (rw [if_neg (by decide +kernel)]; exact ⟨rfl, rfl⟩))
    (fun os started H enc _ F => by rw [OpenClaim.pre_eq_preRow]; exact lifted os started H enc F)
theorem plain (f : FuncId) (fn : Func) (hf : Tryd.pinned.checked.prog.funcNamed "bursar/bursarlaw04.LabelGoesBack" = some f) (hfn : Tryd.pinned.checked.prog.funcs[f]? = some fn) :
    false = Tryd.pinned.checked.prog.looks [] ∧ ∀ (j : Nat) t, fn.params[j]? = some t → Tryd.pinned.checked.prog.wantsStandIn t = false := by
  obtain rfl : f = 9 := Option.some.inj ((show Tryd.prog.funcNamed "bursar/bursarlaw04.LabelGoesBack" = some 9 by kernel_rfl).symm.trans hf) |>.symm
  obtain rfl : fn = Tryd.f9 := (Option.some.inj (Tryd.func9.symm.trans hfn)).symm
  refine ⟨by kernel_rfl, fun j t ht => ?_⟩
  rw [Tryd.params9] at ht
  have hall : ∀ x ∈ [9, 9], Tryd.prog.wantsStandIn x = false := by
    intro x hx; simp only [List.mem_cons, List.mem_nil_iff, or_false] at hx; rcases hx with rfl | rfl <;> kernel_rfl
  exact hall t (by simpa using Array.mem_of_getElem? ht)
theorem card : Rows.LabelGoesBackCardSaid :=
  Claim7.holds_tied_plain_at .later [] _ _ _ _ said (fun _ h => by cases h) (by kernel_rfl) (fun _ h => by cases h) labelGoesBack_row_tie rfl ⟨rfl, rfl⟩ (by kernel_rfl) rfl plain (by kernel_rfl)
#print axioms card
end Go.Proofs.YteaiobgnhlpblaaDoor.labelGoesBack
namespace Go.Proofs.YteaiobgnhlpblaaDoor
/-- The card, under a short name, for the claim. -/
theorem labelGoesBack_holds : Rows.LabelGoesBackCardSaid := labelGoesBack.card
end Go.Proofs.YteaiobgnhlpblaaDoor
