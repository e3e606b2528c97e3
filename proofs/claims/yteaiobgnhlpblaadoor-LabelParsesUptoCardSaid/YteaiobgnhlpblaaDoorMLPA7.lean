/- What the statement LabelParsesUptoCardSaid rests on, part 7 of 7: walks and plain laws; what of the printer's words it leans on. -/
import Derived.Test.YteaiobgnhlpblaaDoorRows
import Derived.Test.YteaiobgnhlpblaaDoorCards
import Derived.Test.YteaiobgnhlpblaaDoorTie
import Derived.Test.YteaiobgnhlpblaaDoorMLPA3
import Derived.Test.YteaiobgnhlpblaaDoorMLPA4
import Derived.Test.YteaiobgnhlpblaaDoorMLPA5
import Derived.Test.YteaiobgnhlpblaaDoorMLPA6
import Derived.WalkKit
import Derived.ProofKit
import Derived.OpenShut
import Derived.ShutString
import Derived.ChangeOld
import Derived.Below
import Derived.SizedLaws
import Derived.Deep.DeepHandedRow
namespace Go.Proofs.YteaiobgnhlpblaaDoor.Q
open Go.RowKit Go.Proofs.YteaiobgnhlpblaaDoorW.PrintWords Go.Proofs.YteaiobgnhlpblaaDoorW.PrintLast Go.Proofs.YteaiobgnhlpblaaDoor.Pl
set_option linter.unusedVariables false
set_option linter.unusedSimpArgs false
theorem join_snoc (vs : List (List UInt8)) (sep : List UInt8) (i : Nat) (h0 : 0 < i) (h : i < vs.length) : Lib.join (vs.take (i + 1)) sep = Lib.join (vs.take i) sep ++ sep ++ vs[i] := by
  cases vs with
  | nil => simp at h
  | cons x r =>
    obtain ⟨j, rfl⟩ : ∃ j, i = j + 1 := ⟨i - 1, by omega⟩
    have hj : r[j]? = some (r[j]'(by simpa using h)) := List.getElem?_eq_getElem _
    rw [List.take_succ_cons, List.take_succ_cons, Lib.join_cons, Lib.join_cons, Lib.joinTail_take_succ sep r j _ hj]
    simp [List.append_assoc]
theorem join_first (vs : List (List UInt8)) (sep : List UInt8) (h : 0 < vs.length) : Lib.join (vs.take 1) sep = vs[0] := by
  cases vs with
  | nil => simp at h
  | cons x r => simp [Lib.join_one]
theorem vl_loop (key : ByteArray) (how : Int) (vs : List ByteArray) (n : Nat) (hn : n < vs.length) (hl : vs.length ≤ 2000000) (d : Nat) : ∀ j : Nat, j + d = n →
    Ev (fun k => bursarref04_value.l0 k (n : Int) vs[n] (j : Int) key how vs) ((nameB vs[n] || (decide (vs[n] = ByteArray.empty) && decide (vs.length ≤ 1))) && !memB ((vs.take n).drop j) vs[n]) := by
  induction d with
  | zero =>
    intro j hj
    have hd : (vs.take n).drop j = [] := List.drop_of_length_le (by rw [List.length_take]; omega)
    rw [hd, show memB [] vs[n] = false from rfl, Bool.not_false, Bool.and_true]
    refine Ev.step (f := fun k => (bursarref04_Name.f k vs[n]).bind fun t141 => (if t141 = true then (some true) else (if (vs[n]).toList = ([] : List UInt8) then (some ((vs.length : Int) == 1)) else (some false)))) (fun k => by simp only [bursarref04_value.l0]; rw [if_neg (by omega)]) ?_
    refine Ev.bind (name_ev _) ?_
    cases hn' : nameB vs[n] with
    | true => rw [Bool.true_or]; exact Ev.congr (fun k => if_pos rfl) (Ev.now _)
    | false =>
      rw [Bool.false_or]
      refine Ev.congr (fun k => if_neg (by decide)) ?_
      by_cases he : vs[n] = ByteArray.empty
      · refine Ev.congr (fun k => if_pos (by rw [he]; exact lit_list.2 rfl)) ?_
        have e : ((vs.length : Int) == 1) = (decide (vs[n] = ByteArray.empty) && decide (vs.length ≤ 1)) := by
          rw [decide_eq_true he, Bool.true_and, Bool.eq_iff_iff, beq_iff_eq, decide_eq_true_iff]; omega
        rw [e]; exact Ev.now _
      · refine Ev.congr (fun k => if_neg (fun h => he (ba_ext ((lit_list.1 h).trans rfl)))) ?_
        rw [decide_eq_false he, Bool.false_and]; exact Ev.now _
  | succ d ih =>
    intro j hj
    have hjn : j < n := by omega
    have hd : (vs.take n).drop j = vs[j] :: (vs.take n).drop (j + 1) := by
      rw [List.drop_eq_getElem_cons (by rw [List.length_take]; omega), List.getElem_take]
    have hrd : rdOf ByteArray.empty vs (j : Int) = vs[j]'(by omega) := rd_at vs j (by omega)
    rw [hd]
    by_cases he : vs[j] = vs[n]
    · have : memB (vs[j] :: (vs.take n).drop (j + 1)) vs[n] = true := by rw [memB_iff]; rw [he]; simp
      rw [this, Bool.not_true, Bool.and_false]
      refine Ev.step (f := fun _ => some false) (fun k => ?_) (Ev.now _)
      simp only [bursarref04_value.l0]
      rw [if_pos (by omega), if_pos (by omega), if_pos (by omega), hrd, if_pos (by rw [he])]
    · have : memB (vs[j] :: (vs.take n).drop (j + 1)) vs[n] = memB ((vs.take n).drop (j + 1)) vs[n] := by
        unfold memB
        rw [List.any_cons, decide_eq_false (fun h => he h.symm), Bool.false_or]
      rw [this]
      refine Ev.step (fun k => ?_) (ih (j + 1) (by omega))
      simp only [bursarref04_value.l0]
      rw [if_pos (by omega), if_pos (by omega), if_pos (by omega), hrd, if_neg (fun h => he ((ba_iff _ _).1 h)), w64 j (by omega)]
theorem value_ev (key : ByteArray) (how : Int) (vs : List ByteArray) (n : Nat) (hn : n < vs.length) (hl : vs.length ≤ 2000000) : Ev (fun k => bursarref04_value.f k key how vs (n : Int)) (vokB vs n) := by
  have h := vl_loop key how vs n hn hl n 0 (by omega)
  rw [List.drop_zero] at h
  unfold vokB
  rw [rd_at vs n hn]
  refine Ev.congr (fun k => ?_) h
  unfold bursarref04_value.f
  rw [if_pos (by omega), if_pos (by omega), rd_at vs n hn]
  rfl
theorem tm_loop (key : ByteArray) (how : Int) (vs : List ByteArray) (hl : vs.length ≤ 2000000) (d : Nat) : ∀ i : Nat, i + d = vs.length →
    Ev (fun k => bursarref04_term.l0 k (i : Int) key how vs) (((List.range vs.length).drop i).all (vokB vs)) := by
  induction d with
  | zero =>
    intro i hi
    rw [List.drop_of_length_le (by simp; omega)]
    refine Ev.step (f := fun _ => some true) (fun k => ?_) (Ev.now _)
    simp only [bursarref04_term.l0]
    rw [if_neg (by omega)]
  | succ d ih =>
    intro i hi
    have hd : (List.range vs.length).drop i = i :: (List.range vs.length).drop (i + 1) := by
      rw [List.drop_eq_getElem_cons (by simp; omega), List.getElem_range]
    rw [hd, List.all_cons]
    refine Ev.step (f := fun k => (bursarref04_value.f k key how vs (i : Int)).bind fun t144 => (if t144 = true then (bursarref04_term.l0 k ((i + 1 : Nat) : Int) key how vs) else (some false))) (fun k => by simp only [bursarref04_term.l0]; rw [if_pos (by omega), w64 i (by omega)]) ?_
    refine Ev.bind (value_ev key how vs i (by omega) hl) ?_
    cases hv : vokB vs i with
    | true => rw [Bool.true_and]; exact Ev.congr (fun k => if_pos rfl) (ih (i + 1) (by omega))
    | false => rw [Bool.false_and]; exact Ev.congr (fun k => if_neg (by decide)) (Ev.now _)
theorem term_ev (key : ByteArray) (how : Int) (vs : List ByteArray) : Ev (fun k => bursarref04_term.f k key how vs) (properB key how vs) := by
  have hno : Ev (fun k => bursarref04_term.j0 k true key how vs) false := Ev.step (f := fun _ => some false) (fun k => by simp only [bursarref04_term.j0]; rw [if_pos trivial]) (Ev.now _)
  refine Ev.congr (fun k => rfl) (Ev.bind (name_ev key) (f := fun k t143 => (if t143 = true then (if how < 0 then (bursarref04_term.j0 k true key how vs) else (bursarref04_term.j0 k (decide (how > 3)) key how vs)) else (bursarref04_term.j0 k true key how vs))) ?_)
  unfold properB
  cases hn : nameB key with
  | false => rw [Bool.false_and]; exact Ev.congr (fun k => if_neg (by decide)) hno
  | true =>
    rw [Bool.true_and]
    refine Ev.congr (fun k => if_pos rfl) ?_
    by_cases h0 : how < 0
    · rw [if_neg (by omega), if_neg (by omega)]
      exact Ev.congr (fun k => if_pos h0) hno
    refine Ev.congr (fun k => if_neg h0) ?_
    by_cases h3 : how > 3
    · rw [if_neg (by omega), if_neg (by omega), decide_eq_true h3]
      exact hno
    rw [decide_eq_false h3]
    by_cases h1 : how > 1
    · rw [if_pos (by omega)]
      refine Ev.step (f := fun _ => some ((vs.length : Int) == 0)) (fun k => by simp only [bursarref04_term.j0]; rw [if_neg (by decide), if_pos h1]) ?_
      have e : ((vs.length : Int) == 0) = decide (vs.length = 0) := by rw [Bool.eq_iff_iff, beq_iff_eq, decide_eq_true_iff]; omega
      rw [e]; exact Ev.now _
    rw [if_neg (by omega), if_pos (by omega)]
    have hj1 : Ev (fun k => bursarref04_term.j1 k true key how vs) false := Ev.step (f := fun _ => some false) (fun k => by simp only [bursarref04_term.j1]; rw [if_pos trivial]) (Ev.now _)
    by_cases hz : vs.length < 1
    · rw [decide_eq_false (by omega), Bool.false_and, Bool.false_and]
      exact Ev.step (fun k => by simp only [bursarref04_term.j0]; rw [if_neg (by decide), if_neg h1, if_pos (by omega)]) hj1
    · rw [decide_eq_true (by omega), Bool.true_and]
      refine Ev.step (fun k => by simp only [bursarref04_term.j0]; rw [if_neg (by decide), if_neg h1, if_neg (by omega)]) (f := fun k => bursarref04_term.j1 k (decide ((vs.length : Int) > 8)) key how vs) ?_
      by_cases h8 : vs.length ≤ 8
      · rw [decide_eq_true h8, Bool.true_and, decide_eq_false (by omega)]
        have h := tm_loop key how vs (by omega) vs.length 0 (by omega)
        exact Ev.step (fun k => by simp only [bursarref04_term.j1]; rw [if_neg (by decide)]; rfl) h
      · rw [decide_eq_false h8, Bool.false_and, decide_eq_true (by omega)]
        exact hj1
def allB (l : List S45) : Bool := decide (l.length ≤ 8) && l.all propB
theorem ts_loop (l : List S45) (hl : l.length ≤ 4611686018427387904) (d : Nat) : ∀ i : Nat, i + d = l.length →
    Ev (fun k => bursarref04_terms.l0 k l (i : Int)) (decide (l.length ≤ 8) && (l.drop i).all propB) := by
  induction d with
  | zero =>
    intro i hi
    rw [List.drop_of_length_le (by omega), List.all_nil, Bool.and_true]
    refine Ev.step (f := fun _ => some (decide (l.length ≤ 8))) (fun k => ?_) (Ev.now _)
    simp only [bursarref04_terms.l0]
    rw [if_neg (by omega)]
    congr 1
    rw [Bool.eq_iff_iff, decide_eq_true_iff, decide_eq_true_iff]; omega
  | succ d ih =>
    intro i hi
    have hlt : i < l.length := by omega
    rw [List.drop_eq_getElem_cons hlt, List.all_cons]
    refine Ev.step (f := fun k => (bursarref04_term.f k l[i].f0 l[i].f1 l[i].f2).bind fun t146 => (if t146 = true then (bursarref04_terms.l0 k l ((i + 1 : Nat) : Int)) else (some false))) (fun k => by simp only [bursarref04_terms.l0]; rw [if_pos (by omega), if_pos (by omega), rd45 l i hlt, w64 i (by omega)]) ?_
    refine Ev.bind (term_ev _ _ _) ?_
    rw [show properB l[i].f0 l[i].f1 l[i].f2 = propB l[i] from rfl]
    cases hp : propB l[i] with
    | true => rw [Bool.true_and]; exact Ev.congr (fun k => if_pos rfl) (ih (i + 1) (by omega))
    | false => rw [Bool.false_and, Bool.and_false]; exact Ev.congr (fun k => if_neg (by decide)) (Ev.now _)
theorem terms_ev (l : List S45) (hl : l.length ≤ 4611686018427387904) : Ev (fun k => bursarref04_terms.f k l) (allB l) := ts_loop l hl l.length 0 (by omega)
set_option maxHeartbeats 1000000 in
theorem wr_loop (pre : List UInt8) (key : ByteArray) (how : Int) (vs : List (List UInt8)) (hp : pre.length ≤ 1000) (hl : vs.length ≤ 8) (hs : (vs.map List.length).sum ≤ 1000) (h1 : 0 < vs.length) (d : Nat) : ∀ i : Nat, i + d = vs.length →
    Ev (fun k => bursarref04_written.l0 k (toB (pre ++ Lib.join (vs.take i) [32])) (i : Int) key how (vs.map toB)) (toB (pre ++ (Lib.join vs [32] ++ [41]))) := by
  have hsum : ∀ i, ((vs.take i).map List.length).sum ≤ (vs.map List.length).sum := fun i => by
    conv => rhs; rw [← List.take_append_drop i vs, List.map_append, List.sum_append]
    omega
  have hjl : ∀ i, (Lib.join (vs.take i) [32]).length ≤ 1008 := fun i => by
    have h := join_len (vs.take i) [32]
    have := hsum i
    rw [List.length_take] at h
    simp only [List.length_cons, List.length_nil] at h
    omega
  induction d with
  | zero =>
    intro i hi
    have hi' : i = vs.length := by omega
    subst hi'
    have := hjl vs.length
    refine Ev.step (f := fun _ => some (toB (pre ++ (Lib.join vs [32] ++ [41])))) (fun k => ?_) (Ev.now _)
    simp only [bursarref04_written.l0]
    rw [if_neg (by simp), if_pos (by rw [toB_size, List.length_append]; omega), show (⟨#[41]⟩ : ByteArray) = toB [41] from rfl, toB_app, List.take_length, List.append_assoc]
  | succ d ih =>
    intro i hi
    have hlt : i < vs.length := by omega
    have hj := hjl i
    have hj' := hjl (i + 1)
    have hih := ih (i + 1) (by omega)
    refine Ev.step (fun k => ?_) hih
    simp only [bursarref04_written.l0]
    rw [if_pos (by simp; omega)]
    by_cases h0 : i = 0
    · subst h0
      have hf := join_first vs [32] h1
      rw [Nat.zero_add, hf] at hj' ⊢
      rw [if_neg (by omega), if_pos (by omega), rd_map vs 0 hlt, if_pos (by rw [toB_size, toB_size, List.length_append]; omega), toB_app, w64 0 (by omega), List.take_zero, Lib.join_nil, List.append_nil]
    · have hsn := join_snoc vs [32] i (by omega) hlt
      rw [hsn] at hj' ⊢
      simp only [List.length_append] at hj'
      rw [if_pos (by omega), if_pos (by rw [toB_size, List.length_append]; omega), if_pos (by omega), rd_map vs i hlt, show (⟨#[32]⟩ : ByteArray) = toB [32] from rfl, toB_app, if_pos (by rw [toB_size, toB_size, List.length_append, List.length_append]; simp; omega), toB_app, w64 i (by omega)]
      simp only [List.append_assoc]
set_option maxHeartbeats 2000000 in
theorem written_ev (t : S45) (h : Good t) : Ev (fun k => bursarref04_written.f k t.f0 t.f1 t.f2) (toB (wS t)) := by
  cases h with
  | has key hk =>
    rw [show (⟨toB key, 2, []⟩ : S45) = ⟨toB key, 2, [].map toB⟩ from rfl, wS_mk]
    dsimp only
    exact Ev.congr (fun k => by unfold bursarref04_written.f; rw [if_pos rfl]; rfl) (Ev.now _)
  | hasNot key hk =>
    have := name_len hk
    rw [show (⟨toB key, 3, []⟩ : S45) = ⟨toB key, 3, [].map toB⟩ from rfl, wS_mk]
    dsimp only
    exact Ev.congr (f := fun _ => some (toB (33 :: key))) (fun k => by unfold bursarref04_written.f; rw [if_neg (by decide), if_pos rfl, if_pos (by rw [toB_size]; omega), show (⟨#[33]⟩ : ByteArray) = toB [33] from rfl, toB_app]; rfl) (Ev.now _)
  | one key hk how hh v hv =>
    have := name_len hk
    have hv' : v.length ≤ 32 := by
      rcases hv with h | h
      · exact (name_len h).2
      · simp [h]
    rw [wS_mk]
    dsimp only
    have e0 : rdOf ByteArray.empty (List.map toB [v]) 0 = toB v := rfl
    rcases hh with rfl | rfl
    · refine Ev.congr (f := fun k => bursarref04_written.j0 k true (toB key) 0 (List.map toB [v])) (fun k => by unfold bursarref04_written.f; rw [if_neg (by decide), if_neg (by decide), if_pos (by simp)]; rfl) ?_
      refine Ev.step (f := fun _ => some (toB (key ++ 61 :: v))) (fun k => ?_) (Ev.now _)
      simp only [bursarref04_written.j0]
      rw [if_pos trivial, if_pos (by rw [toB_size]; omega), if_pos (by simp), e0, show (⟨#[61]⟩ : ByteArray) = toB [61] from rfl, toB_app, if_pos (by rw [toB_size, toB_size]; simp; omega), toB_app]
      simp
    · refine Ev.congr (f := fun k => bursarref04_written.j0 k false (toB key) 1 (List.map toB [v])) (fun k => by unfold bursarref04_written.f; rw [if_neg (by decide), if_neg (by decide), if_pos (by simp)]; rfl) ?_
      refine Ev.step (f := fun _ => some (toB (key ++ 33 :: 61 :: v))) (fun k => ?_) (Ev.now _)
      simp only [bursarref04_written.j0]
      rw [if_neg (by decide), if_pos (by simp), if_pos (by rw [toB_size]; omega), if_pos (by simp), e0, show (⟨#[33, 61]⟩ : ByteArray) = toB [33, 61] from rfl, toB_app, if_pos (by rw [toB_size, toB_size]; simp; omega), toB_app]
      simp
  | many key hk how hh v mid z hv hl =>
    have := name_len hk
    have hs := names_sum _ hv
    have hne : ¬ (v :: (mid ++ [z])).length = 1 := by simp
    have hne' : ¬ (((v :: (mid ++ [z])).map toB).length : Int) = 1 := by simp; omega
    have hl8 : (v :: (mid ++ [z])).length ≤ 8 := by simp; omega
    have h0 : 0 < (v :: (mid ++ [z])).length := by simp
    rw [wS_mk]
    dsimp only
    generalize hvs : v :: (mid ++ [z]) = vs at *
    rcases hh with rfl | rfl
    · have e : wL key 0 vs = (key ++ [32, 105, 110, 32, 40]) ++ (Lib.join vs [32] ++ [41]) := by unfold wL; rw [if_neg (by decide), if_neg (by decide), if_neg hne, if_neg (by decide), List.append_assoc]
      rw [e]
      have h := wr_loop (key ++ [32, 105, 110, 32, 40]) (toB key) 0 vs (by simp; omega) hl8 (by omega) h0 vs.length 0 (by omega)
      rw [List.take_zero, Lib.join_nil, List.append_nil] at h
      refine Ev.congr (f := fun k => bursarref04_written.j0 k false (toB key) 0 (List.map toB vs)) (fun k => by unfold bursarref04_written.f; rw [if_neg (by decide), if_neg (by decide), if_neg hne']) ?_
      refine Ev.step (f := fun k => bursarref04_written.j1 k (toB (key ++ [32, 105, 110, 32, 40])) (toB key) 0 (List.map toB vs)) (fun k => ?_) (Ev.step (fun k => by simp only [bursarref04_written.j1]; rfl) h)
      simp only [bursarref04_written.j0]
      rw [if_neg (by decide), if_neg hne', if_pos (by rw [toB_size]; omega), if_neg (by decide), show (⟨#[32, 105, 110, 32, 40]⟩ : ByteArray) = toB [32, 105, 110, 32, 40] from rfl, toB_app]
    · have e : wL key 1 vs = (key ++ [32, 110, 111, 116, 105, 110, 32, 40]) ++ (Lib.join vs [32] ++ [41]) := by unfold wL; rw [if_neg (by decide), if_neg (by decide), if_neg hne, if_pos rfl, List.append_assoc]
      rw [e]
      have h := wr_loop (key ++ [32, 110, 111, 116, 105, 110, 32, 40]) (toB key) 1 vs (by simp; omega) hl8 (by omega) h0 vs.length 0 (by omega)
      rw [List.take_zero, Lib.join_nil, List.append_nil] at h
      refine Ev.congr (f := fun k => bursarref04_written.j0 k false (toB key) 1 (List.map toB vs)) (fun k => by unfold bursarref04_written.f; rw [if_neg (by decide), if_neg (by decide), if_neg hne']) ?_
      refine Ev.step (f := fun k => bursarref04_written.j1 k (toB (key ++ [32, 110, 111, 116, 105, 110, 32, 40])) (toB key) 1 (List.map toB vs)) (fun k => ?_) (Ev.step (fun k => by simp only [bursarref04_written.j1]; rfl) h)
      simp only [bursarref04_written.j0]
      rw [if_neg (by decide), if_neg hne', if_pos (by rw [toB_size]; omega), if_pos trivial, if_pos (by rw [toB_size]; omega), show (⟨#[32, 110, 111, 116, 105, 110, 32, 40]⟩ : ByteArray) = toB [32, 110, 111, 116, 105, 110, 32, 40] from rfl, toB_app]
def pL (l : List S45) : List UInt8 := Lib.join (l.map wS) [44]
def printS (l : List S45) : ByteArray × Int := if allB l = true then (toB (pL l), 0) else (⟨#[]⟩, 43)
theorem allB_good {l : List S45} (h : allB l = true) : l.length ≤ 8 ∧ ∀ t ∈ l, Good t := by
  unfold allB at h
  rw [Bool.and_eq_true, decide_eq_true_iff, List.all_eq_true] at h
  exact ⟨h.1, fun t ht => good_of t (h.2 t ht)⟩
theorem ws_sum : ∀ l : List S45, (∀ t ∈ l, Good t) → ((l.map wS).map List.length).sum ≤ 400 * l.length
  | [], _ => by simp
  | t :: l, h => by
    have := ws_sum l (fun x hx => h x (by simp [hx]))
    have ht := (wS_len (h t (by simp))).2
    simp only [List.map_cons, List.sum_cons, List.length_cons]
    omega
theorem lp_loop (l : List S45) (h8 : l.length ≤ 8) (hg : ∀ t ∈ l, Good t) (d : Nat) : ∀ i : Nat, i + d = l.length →
    Ev (fun k => label_Print.l0 k (((l.take i).map wS).map toB) l (l.length : Int) (i : Int)) (toB (pL l), 0) := by
  induction d with
  | zero =>
    intro i hi
    have hi' : i = l.length := by omega
    subst hi'
    rw [List.take_length]
    have hs := ws_sum l hg
    refine Ev.step (f := fun _ => some (toB (pL l), 0)) (fun k => ?_) (Ev.now _)
    simp only [label_Print.l0]
    rw [if_neg (by omega), show (⟨#[44]⟩ : ByteArray) = toB [44] from rfl, sjoin_some _ _ (by simp; omega) (by omega) (by decide)]
    rfl
  | succ d ih =>
    intro i hi
    have hlt : i < l.length := by omega
    have hih := ih (i + 1) (by omega)
    have e : ((l.take (i + 1)).map wS).map toB = ((l.take i).map wS).map toB ++ [toB (wS l[i])] := by rw [List.take_succ_eq_append_getElem hlt, List.map_append, List.map_append]; rfl
    rw [e] at hih
    refine Ev.step (f := fun k => (label_printed.f k l[i].f0 l[i].f1 l[i].f2).bind fun t235 => if (((l.take i).map wS).map toB).length < 8796093022208 then label_Print.l0 k ((((l.take i).map wS).map toB) ++ [t235]) l (l.length : Int) ((i + 1 : Nat) : Int) else none) (fun k => ?_) ?_
    · simp only [label_Print.l0]
      rw [if_pos (by omega), if_pos (by omega), if_pos (by omega), rd45 l i hlt, w64 i (by omega)]
    · refine Ev.bind (printed_ev _ (hg _ (List.getElem_mem _))) ?_
      exact Ev.congr (fun k => if_pos (by simp; omega)) hih
theorem print_ev (l : List S45) : Ev (fun k => label_Print.f k l) (printS l) := by
  refine Ev.congr (fun k => rfl) (Ev.bind (a := allB l) (Ev.now _) (f := fun k t232 => if t232 = true then (label_Print.l0 k ([] : List ByteArray) l (l.length : Int) 0) else (some ((⟨#[]⟩ : ByteArray), 43))) ?_)
  unfold printS
  by_cases h : allB l = true
  · rw [if_pos h]
    obtain ⟨h8, hg⟩ := allB_good h
    exact Ev.congr (fun k => if_pos h) (lp_loop l h8 hg l.length 0 (by omega))
  · rw [if_neg h]
    exact Ev.congr (fun k => if_neg h) (Ev.now _)
set_option maxHeartbeats 1000000 in
theorem rp_loop (l : List S45) (h8 : l.length ≤ 8) (hg : ∀ t ∈ l, Good t) (d : Nat) : ∀ i : Nat, i + d = l.length →
    Ev (fun k => bursarref04_Print.l0 k l (toB (Lib.join ((l.map wS).take i) [44])) (i : Int)) (toB (pL l), 0) := by
  have hs := ws_sum l hg
  have hjl : ∀ i, (Lib.join ((l.map wS).take i) [44]).length ≤ 4000 := fun i => by
    have h := join_len ((l.map wS).take i) [44]
    have : (((l.map wS).take i).map List.length).sum ≤ ((l.map wS).map List.length).sum := by
      conv => rhs; rw [← List.take_append_drop i (l.map wS), List.map_append, List.sum_append]
      omega
    rw [List.length_take] at h
    simp only [List.length_map, List.length_cons, List.length_nil] at h
    omega
  induction d with
  | zero =>
    intro i hi
    have hi' : i = l.length := by omega
    subst hi'
    have e : (l.map wS).take l.length = l.map wS := List.take_of_length_le (by simp)
    rw [e]
    refine Ev.step (f := fun _ => some (toB (pL l), 0)) (fun k => ?_) (Ev.now _)
    simp only [bursarref04_Print.l0]
    rw [if_neg (by omega)]
    rfl
  | succ d ih =>
    intro i hi
    have hlt : i < l.length := by omega
    have hlt' : i < (l.map wS).length := by simpa using hlt
    have hw := written_ev _ (hg _ (List.getElem_mem hlt))
    have hwl := wS_len (hg _ (List.getElem_mem hlt))
    have hj := hjl i
    have hj' := hjl (i + 1)
    have hih := ih (i + 1) (by omega)
    by_cases h0 : i = 0
    · subst h0
      rw [Nat.zero_add, join_first _ [44] (by simpa using hlt), List.getElem_map] at hih
      refine Ev.step (f := fun k => (bursarref04_written.f k l[0].f0 l[0].f1 l[0].f2).bind fun t156 => if (toB (Lib.join ((l.map wS).take 0) [44])).size + t156.size ≤ 9223372036854775807 then bursarref04_Print.l0 k l ((toB (Lib.join ((l.map wS).take 0) [44])) ++ t156) ((0 + 1 : Nat) : Int) else none) (fun k => ?_) ?_
      · simp only [bursarref04_Print.l0]
        rw [if_pos (by omega), if_neg (by omega), if_pos (by omega), rd45 l 0 hlt, w64 0 (by omega)]
      · refine Ev.bind hw ?_
        refine Ev.congr (fun k => if_pos (by rw [toB_size, toB_size]; omega)) ?_
        rw [toB_app, List.take_zero, Lib.join_nil, List.nil_append]
        exact hih
    · rw [join_snoc _ [44] i (by omega) hlt', List.getElem_map] at hih
      refine Ev.step (f := fun k => (bursarref04_written.f k l[i].f0 l[i].f1 l[i].f2).bind fun t154 => if ((toB (Lib.join ((l.map wS).take i) [44])) ++ (⟨#[44]⟩ : ByteArray)).size + t154.size ≤ 9223372036854775807 then bursarref04_Print.l0 k l ((toB (Lib.join ((l.map wS).take i) [44])) ++ (⟨#[44]⟩ : ByteArray) ++ t154) ((i + 1 : Nat) : Int) else none) (fun k => ?_) ?_
      · simp only [bursarref04_Print.l0]
        rw [if_pos (by omega), if_pos (by omega), if_pos (by rw [toB_size]; omega), if_pos (by omega), rd45 l i hlt, w64 i (by omega)]
      · refine Ev.bind hw ?_
        rw [show (⟨#[44]⟩ : ByteArray) = toB [44] from rfl, toB_app]
        refine Ev.congr (fun k => if_pos (by rw [toB_size, toB_size, List.length_append]; simp only [List.length_cons, List.length_nil]; omega)) ?_
        rw [toB_app]
        exact hih
theorem refPrint_ev (l : List S45) (hl : l.length ≤ 4611686018427387904) : Ev (fun k => bursarref04_Print.f k l) (printS l) := by
  refine Ev.congr (fun k => rfl) (Ev.bind (terms_ev l hl) (f := fun k t152 => if t152 = true then (bursarref04_Print.l0 k l (⟨#[]⟩ : ByteArray) 0) else (some ((⟨#[]⟩ : ByteArray), 43))) ?_)
  unfold printS
  by_cases h : allB l = true
  · rw [if_pos h]
    obtain ⟨h8, hg⟩ := allB_good h
    exact Ev.congr (fun k => if_pos h) (rp_loop l h8 hg l.length 0 (by omega))
  · rw [if_neg h]
    exact Ev.congr (fun k => if_neg h) (Ev.now _)
end Go.Proofs.YteaiobgnhlpblaaDoor.Q
namespace Go.Proofs.YteaiobgnhlpblaaDoor.Q
open Go.RowKit Go.Proofs.YteaiobgnhlpblaaDoorW.PrintWords Go.Proofs.YteaiobgnhlpblaaDoorW.PrintLast Go.Proofs.YteaiobgnhlpblaaDoor.Pl
set_option linter.unusedVariables false
set_option linter.unusedSimpArgs false
theorem name_not {l : List UInt8} (h : nameL l = true) (c : UInt8) (hc : okByte c = false) : c ∉ l := by
  intro hm
  unfold nameL nameB at h
  simp only [Bool.and_eq_true, List.all_eq_true] at h
  have := h.2 c (by simpa [toB_list] using hm)
  rw [hc] at this; cases this
theorem index_at (a b r : List UInt8) (c : UInt8) (h : c ∉ a) : Lib.index (a ++ (c :: r ++ b)) (c :: r) = (a.length : Int) := by
  refine Lib.index_first (by simp) ?_ ?_
  · unfold Lib.occAt
    rw [List.drop_left, List.isPrefixOf_iff_prefix]
    exact List.prefix_append _ _
  · intro j hj
    unfold Lib.occAt
    rw [List.drop_append_of_le_length (by omega), List.drop_eq_getElem_cons hj]
    have : a[j] ≠ c := fun e => h (e ▸ List.getElem_mem hj)
    show ((c == a[j]) && _) = false
    rw [beq_eq_false_iff_ne.2 (Ne.symm this)]; rfl
theorem index_no (s r : List UInt8) (c : UInt8) (h : c ∉ s) : Lib.index s (c :: r) = -1 := by
  refine Lib.index_none (fun j hj => ?_)
  unfold Lib.occAt
  rcases Nat.lt_or_ge j s.length with h1 | h1
  · rw [List.drop_eq_getElem_cons h1]
    have : s[j] ≠ c := fun e => h (e ▸ List.getElem_mem h1)
    show ((c == s[j]) && _) = false
    rw [beq_eq_false_iff_ne.2 (Ne.symm this)]; rfl
  · rw [List.drop_of_length_le h1]; rfl
theorem scut_yes (a b r : List UInt8) (c : UInt8) (h : c ∉ a) (hs : (a ++ (c :: r ++ b)).length ≤ 4000000000) : strings_Cut.f (toB (a ++ (c :: r ++ b))) (toB (c :: r)) = some (toB a, toB b, true) := by
  have hc : Lib.cut (a ++ (c :: r ++ b)) (c :: r) = (a, b, true) := by
    unfold Lib.cut
    rw [index_at a b r c h, if_pos (by omega), Int.toNat_natCast, List.take_left, ← List.drop_drop, List.drop_left, List.drop_left]
  unfold strings_Cut.f
  rw [if_pos (by rw [toB_size]; omega)]
  unfold cutA cutZ cutB
  rw [toB_list, toB_list, hc]
  rfl
theorem scut_no (s r : List UInt8) (c : UInt8) (h : c ∉ s) (hs : s.length ≤ 4000000000) : strings_Cut.f (toB s) (toB (c :: r)) = some (toB s, ⟨#[]⟩, false) := by
  have hc : Lib.cut s (c :: r) = (s, [], false) := by
    unfold Lib.cut
    rw [index_no s r c h, if_neg (by decide)]
  unfold strings_Cut.f
  rw [if_pos (by rw [toB_size]; omega)]
  unfold cutA cutZ cutB
  rw [toB_list, toB_list, hc]
  rfl
theorem scut_some (s p : ByteArray) (hs : s.size ≤ 4000000000) : ∃ a b c, strings_Cut.f s p = some (a, b, c) := ⟨_, _, _, by unfold strings_Cut.f; rw [if_pos (by omega)]⟩
theorem scutp_some (s p : ByteArray) : ∃ a b, strings_CutPrefix.f s p = some (a, b) ∧ a.size ≤ s.size := by
  by_cases h : p.data.toList <+: s.data.toList
  · exact ⟨_, _, cutPrefix_yes s p h, by rw [toB_size, List.length_drop, size_list]; omega⟩
  · exact ⟨_, _, cutPrefix_no s p h, Nat.le_refl _⟩
theorem ext_toB (l : List UInt8) (a b : Nat) : (toB l).extract a b = toB ((l.take b).drop a) := ba_ext (by rw [ext_list, toB_list, toB_list])
theorem sfx_some (s p : ByteArray) (hs : s.size ≤ 4000000000) (hp : p.size ≤ 4000000000) : ∃ a b, strings_CutSuffix.f s p = some (a, b) ∧ a.size ≤ s.size := by
  unfold strings_CutSuffix.f stringslite_CutSuffix.f stringslite_HasSuffix.f
  have hw : (s.size : Int) ≥ (p.size : Int) → wrap64 ((s.size : Int) - (p.size : Int)) = (s.size : Int) - (p.size : Int) := fun h => by unfold wrap64; omega
  by_cases h : (s.size : Int) ≥ (p.size : Int)
  · rw [if_pos h, hw h, if_pos (by omega), if_pos (by omega), Option.bind_some]
    by_cases h2 : ((s.extract ((s.size : Int) - (p.size : Int)).toNat s.size).toList == p.toList) = true
    · rw [if_pos h2, if_pos (by omega), if_pos (by omega)]
      exact ⟨_, _, rfl, by rw [← size_list, ← size_list, ext_list, List.length_drop, List.length_take]; omega⟩
    · rw [if_neg h2]
      exact ⟨_, _, rfl, Nat.le_refl _⟩
  · rw [if_neg h]
    exact ⟨_, _, rfl, Nat.le_refl _⟩
theorem sfx_yes (a p : List UInt8) (hs : (a ++ p).length ≤ 4000000000) : strings_CutSuffix.f (toB (a ++ p)) (toB p) = some (toB a, true) := by
  unfold strings_CutSuffix.f stringslite_CutSuffix.f stringslite_HasSuffix.f
  have hl : (a ++ p).length = a.length + p.length := List.length_append
  have hw : wrap64 (((toB (a ++ p)).size : Int) - ((toB p).size : Int)) = (a.length : Int) := by rw [toB_size, toB_size, hl]; unfold wrap64; omega
  have hx : (toB (a ++ p)).extract (a.length : Int).toNat (toB (a ++ p)).size = toB p := by
    rw [Int.toNat_natCast, ext_toB, toB_size, List.take_length, List.drop_left]
  have hy : (toB (a ++ p)).extract 0 (a.length : Int).toNat = toB a := by
    rw [Int.toNat_natCast, ext_toB, List.take_left, List.drop_zero]
  rw [hw, if_pos (by rw [toB_size, toB_size, hl]; omega), if_pos (by omega), if_pos (by rw [toB_size, hl]; omega), Option.bind_some, hx, if_pos (by simp), if_pos (by omega), if_pos (by rw [toB_size, hl]; omega), hy]
  rfl
theorem pcs_join (c : UInt8) (l : List (List UInt8)) (h0 : l ≠ []) (h : ∀ p ∈ l, c ∉ p) : pcs c (Lib.join l [c]) = l := by
  cases l with
  | nil => exact absurd rfl h0
  | cons n ns =>
    rw [Lib.join_cons]
    exact pcs_of_names c n ns h
theorem le_sum : ∀ (l : List Nat) (x : Nat), x ∈ l → x ≤ l.sum
  | [], _, h => by cases h
  | y :: l, x, h => by
    rw [List.sum_cons]
    rcases List.mem_cons.1 h with rfl | h
    · omega
    · have := le_sum l x h; omega
theorem pcs_le (c : UInt8) (l : List UInt8) : ∀ p ∈ pcs c l, p.length ≤ l.length := by
  intro p hp
  have hf := congrArg List.length (pcs_flat c l)
  rw [List.length_flatten, List.map_map] at hf
  have hm : p.length + 1 ∈ (pcs c l).map (List.length ∘ (c :: ·)) := List.mem_map.2 ⟨p, hp, by simp⟩
  have := le_sum _ _ hm
  simp only [List.length_cons] at hf
  omega
def tr (t : S45) : ByteArray × Int × List ByteArray := (t.f0, t.f1, t.f2)
theorem not_bang {l : List UInt8} (hk : nameL l = true) (r : List UInt8) : ¬ (toB [33]).data.toList <+: (toB (l ++ r)).data.toList := by
  rw [toB_list, toB_list]
  intro h
  cases l with
  | nil => exact name_ne hk rfl
  | cons x l =>
    rw [List.cons_append, List.cons_prefix_cons] at h
    exact name_not hk 33 (by decide) (by rw [h.1]; simp)
set_option maxHeartbeats 4000000 in
theorem term_again (t : S45) (h : Good t) : Ev (fun k => label_term.f k (toB (wS t))) (tr t) := by
  have hwl := wS_len h
  have e33 : (⟨#[33]⟩ : ByteArray) = toB [33] := rfl
  have e32 : (⟨#[32]⟩ : ByteArray) = toB [32] := rfl
  have e61 : (⟨#[61]⟩ : ByteArray) = toB [61] := rfl
  have e3361 : (⟨#[33, 61]⟩ : ByteArray) = toB [33, 61] := rfl
  cases h with
  | has key hk =>
    rw [show (⟨toB key, 2, []⟩ : S45) = ⟨toB key, 2, [].map toB⟩ from rfl, wS_mk] at hwl ⊢
    have e : wL key 2 [] = key := rfl
    rw [e] at hwl ⊢
    refine Ev.congr (f := fun _ => some (toB key, 2, [])) (fun k => ?_) (Ev.now _)
    unfold label_term.f
    have hb := not_bang hk []
    rw [List.append_nil] at hb
    rw [e33, cutPrefix_no _ _ hb, Option.bind_some, if_neg Bool.false_ne_true, e32, scut_no key [] 32 (name_not hk 32 (by decide)) (by omega), Option.bind_some, if_neg Bool.false_ne_true, e3361, scut_no key [61] 33 (name_not hk 33 (by decide)) (by omega), Option.bind_some, if_neg Bool.false_ne_true, e61, scut_no key [] 61 (name_not hk 61 (by decide)) (by omega), Option.bind_some, if_neg Bool.false_ne_true]
  | hasNot key hk =>
    rw [show (⟨toB key, 3, []⟩ : S45) = ⟨toB key, 3, [].map toB⟩ from rfl, wS_mk] at hwl ⊢
    have e : wL key 3 [] = 33 :: key := rfl
    rw [e] at hwl ⊢
    refine Ev.congr (f := fun _ => some (toB key, 3, [])) (fun k => ?_) (Ev.now _)
    unfold label_term.f
    rw [e33, cutPrefix_yes _ _ (by rw [toB_list, toB_list]; exact ⟨key, rfl⟩), Option.bind_some, if_pos rfl]
    rfl
  | one key hk how hh v hv =>
    have hv32 : ∀ c : UInt8, okByte c = false → c ∉ v := fun c hc => by
      rcases hv with h | h
      · exact name_not h c hc
      · rw [h]; simp
    rw [wS_mk] at hwl ⊢
    rcases hh with rfl | rfl
    · have e : wL key 0 [v] = key ++ (61 :: [] ++ v) := rfl
      rw [e] at hwl ⊢
      refine Ev.congr (f := fun _ => some (toB key, 0, [toB v])) (fun k => ?_) (Ev.now _)
      unfold label_term.f
      have n1 : (32 : UInt8) ∉ key ++ (61 :: [] ++ v) := by simp [name_not hk 32 (by decide), hv32 32 (by decide)]
      have n2 : (33 : UInt8) ∉ key ++ (61 :: [] ++ v) := by simp [name_not hk 33 (by decide), hv32 33 (by decide)]
      rw [e33, cutPrefix_no _ _ (not_bang hk _), Option.bind_some, if_neg Bool.false_ne_true, e32, scut_no _ [] 32 n1 (by omega), Option.bind_some, if_neg Bool.false_ne_true, e3361, scut_no _ [61] 33 n2 (by omega), Option.bind_some, if_neg Bool.false_ne_true, e61, scut_yes key v [] 61 (name_not hk 61 (by decide)) (by omega), Option.bind_some, if_pos rfl]
    · have e : wL key 1 [v] = key ++ (33 :: [61] ++ v) := rfl
      rw [e] at hwl ⊢
      refine Ev.congr (f := fun _ => some (toB key, 1, [toB v])) (fun k => ?_) (Ev.now _)
      unfold label_term.f
      have n1 : (32 : UInt8) ∉ key ++ (33 :: [61] ++ v) := by simp [name_not hk 32 (by decide), hv32 32 (by decide)]
      rw [e33, cutPrefix_no _ _ (not_bang hk _), Option.bind_some, if_neg Bool.false_ne_true, e32, scut_no _ [] 32 n1 (by omega), Option.bind_some, if_neg Bool.false_ne_true, e3361, scut_yes key v [61] 33 (name_not hk 33 (by decide)) (by omega), Option.bind_some, if_pos rfl]
  | many key hk how hh v mid z hv hl =>
    have hne : ¬ (v :: (mid ++ [z])).length = 1 := by simp
    have hne0 : v :: (mid ++ [z]) ≠ [] := by simp
    have hfree : ∀ p ∈ v :: (mid ++ [z]), (32 : UInt8) ∉ p := fun p hp => name_not (List.all_eq_true.1 hv p hp) 32 (by decide)
    rw [wS_mk] at hwl ⊢
    generalize hvs : v :: (mid ++ [z]) = vs at *
    have hpj := pcs_join 32 vs hne0 hfree
    have hj0 : ∀ how, Lib.join vs [32] ++ [41] ≠ [] → (Lib.join vs [32] ++ [41]).length ≤ 400 → Ev (fun k => label_term.j0 k (toB key) how (toB (Lib.join vs [32] ++ [41])) true) (toB key, how, vs.map toB) := by
      intro how _ hlen
      refine Ev.step (f := fun _ => some (toB key, how, vs.map toB)) (fun k => ?_) (Ev.now _)
      simp only [label_term.j0]
      rw [show (⟨#[41]⟩ : ByteArray) = toB [41] from rfl, sfx_yes _ _ (by omega), Option.bind_some, if_pos trivial, if_pos rfl, e32]
      have : strings_Split.f (toB (Lib.join vs [32])) (toB [32]) = some (vs.map toB) := by
        have := split_some (toB (Lib.join vs [32])) 32 (by rw [toB_size]; simp at hlen; omega)
        rw [toB_list, hpj] at this
        exact this
      rw [this, Option.bind_some]
    rcases hh with rfl | rfl
    · have e : wL key 0 vs = key ++ (32 :: [] ++ ([105, 110, 32, 40] ++ (Lib.join vs [32] ++ [41]))) := by unfold wL; rw [if_neg (by decide), if_neg (by decide), if_neg hne, if_neg (by decide)]; rfl
      rw [e] at hwl ⊢
      have hlen : (Lib.join vs [32] ++ [41]).length ≤ 400 := by simp at hwl ⊢; omega
      refine Ev.congr (fun k => ?_) (hj0 0 (by simp) hlen)
      unfold label_term.f
      rw [e33, cutPrefix_no _ _ (not_bang hk _), Option.bind_some, if_neg Bool.false_ne_true, e32, scut_yes key _ [] 32 (name_not hk 32 (by decide)) (by omega), Option.bind_some, if_pos rfl, show (⟨#[105, 110, 32, 40]⟩ : ByteArray) = toB [105, 110, 32, 40] from rfl]
      dsimp only
      rw [cutPrefix_yes _ _ (by rw [toB_list, toB_list]; exact List.prefix_append _ _), Option.bind_some, if_pos rfl]
      rfl
    · have e : wL key 1 vs = key ++ (32 :: [] ++ ([110, 111, 116, 105, 110, 32, 40] ++ (Lib.join vs [32] ++ [41]))) := by unfold wL; rw [if_neg (by decide), if_neg (by decide), if_neg hne, if_pos rfl]; rfl
      rw [e] at hwl ⊢
      have hlen : (Lib.join vs [32] ++ [41]).length ≤ 400 := by simp at hwl ⊢; omega
      refine Ev.congr (fun k => ?_) (hj0 1 (by simp) hlen)
      unfold label_term.f
      rw [e33, cutPrefix_no _ _ (not_bang hk _), Option.bind_some, if_neg Bool.false_ne_true, e32, scut_yes key _ [] 32 (name_not hk 32 (by decide)) (by omega), Option.bind_some, if_pos rfl, show (⟨#[105, 110, 32, 40]⟩ : ByteArray) = toB [105, 110, 32, 40] from rfl, show (⟨#[110, 111, 116, 105, 110, 32, 40]⟩ : ByteArray) = toB [110, 111, 116, 105, 110, 32, 40] from rfl]
      dsimp only
      rw [cutPrefix_no _ _ (by rw [toB_list, toB_list]; simp [List.cons_prefix_cons]), Option.bind_some, if_neg Bool.false_ne_true, cutPrefix_yes _ _ (by rw [toB_list, toB_list]; exact List.prefix_append _ _), Option.bind_some]
      rfl
theorem term_total (s : ByteArray) (hs : s.size ≤ 1048576) : ∃ r, Ev (fun k => label_term.f k s) r := by
  have hj0 : ∀ a how (x : ByteArray) b, x.size ≤ 4000000 → ∃ r, Ev (fun k => label_term.j0 k a how x b) r := by
    intro a how x b hx
    obtain ⟨l, e, hl, hle⟩ := sfx_some x (⟨#[41]⟩ : ByteArray) (by omega) (by decide)
    have hsp := split_some l 32 (by omega)
    cases b with
    | false => exact ⟨_, Ev.step (f := fun _ => some ((⟨#[]⟩ : ByteArray), 0, ([] : List ByteArray))) (fun k => by simp only [label_term.j0]; rw [hl, Option.bind_some, if_neg Bool.false_ne_true]) (Ev.now _)⟩
    | true =>
      cases e with
      | false => exact ⟨_, Ev.step (f := fun _ => some ((⟨#[]⟩ : ByteArray), 0, ([] : List ByteArray))) (fun k => by simp only [label_term.j0]; rw [hl, Option.bind_some, if_pos trivial, if_neg Bool.false_ne_true]) (Ev.now _)⟩
      | true => exact ⟨_, Ev.step (fun k => by simp only [label_term.j0]; rw [hl, Option.bind_some, if_pos trivial, if_pos rfl, hsp, Option.bind_some]) (Ev.now _)⟩
  obtain ⟨p, b, hp, _⟩ := scutp_some s (⟨#[33]⟩ : ByteArray)
  cases b with
  | true => exact ⟨_, Ev.congr (fun k => by unfold label_term.f; rw [hp, Option.bind_some, if_pos rfl]) (Ev.now _)⟩
  | false =>
    have hc1 : strings_Cut.f s (⟨#[32]⟩ : ByteArray) = some (cutA s ⟨#[32]⟩, cutZ s ⟨#[32]⟩, cutB s ⟨#[32]⟩) := by unfold strings_Cut.f; rw [if_pos (by omega)]
    have hz : (cutZ s ⟨#[32]⟩).size ≤ s.size := by
      rw [show (cutZ s ⟨#[32]⟩).size = (Lib.cut s.data.toList [32]).2.1.length from toB_size _, ← size_list s]
      unfold Lib.cut
      split
      · show (s.data.toList.drop _).length ≤ _
        rw [List.length_drop]; omega
      · exact Nat.zero_le _
    cases hb1 : cutB s ⟨#[32]⟩ with
    | true =>
      rw [hb1] at hc1
      obtain ⟨x, b2, h2, hx⟩ := scutp_some (cutZ s ⟨#[32]⟩) (⟨#[105, 110, 32, 40]⟩ : ByteArray)
      cases b2 with
      | true =>
        obtain ⟨r, hr⟩ := hj0 (cutA s ⟨#[32]⟩) 0 x true (by omega)
        exact ⟨r, Ev.congr (fun k => by unfold label_term.f; rw [hp, Option.bind_some, if_neg Bool.false_ne_true, hc1, Option.bind_some, if_pos rfl, h2, Option.bind_some, if_pos rfl]) hr⟩
      | false =>
        obtain ⟨y, b3, h3, hy⟩ := scutp_some (cutZ s ⟨#[32]⟩) (⟨#[110, 111, 116, 105, 110, 32, 40]⟩ : ByteArray)
        obtain ⟨r, hr⟩ := hj0 (cutA s ⟨#[32]⟩) 1 y b3 (by omega)
        exact ⟨r, Ev.congr (fun k => by unfold label_term.f; rw [hp, Option.bind_some, if_neg Bool.false_ne_true, hc1, Option.bind_some, if_pos rfl, h2, Option.bind_some, if_neg Bool.false_ne_true, h3, Option.bind_some]) hr⟩
    | false =>
      rw [hb1] at hc1
      obtain ⟨a2, z2, b2, h2⟩ := scut_some s (⟨#[33, 61]⟩ : ByteArray) (by omega)
      obtain ⟨a3, z3, b3, h3⟩ := scut_some s (⟨#[61]⟩ : ByteArray) (by omega)
      cases b2 with
      | true => exact ⟨_, Ev.congr (fun k => by unfold label_term.f; rw [hp, Option.bind_some, if_neg Bool.false_ne_true, hc1, Option.bind_some, if_neg Bool.false_ne_true, h2, Option.bind_some, if_pos rfl]) (Ev.now _)⟩
      | false =>
        cases b3 with
        | true => exact ⟨_, Ev.congr (fun k => by unfold label_term.f; rw [hp, Option.bind_some, if_neg Bool.false_ne_true, hc1, Option.bind_some, if_neg Bool.false_ne_true, h2, Option.bind_some, if_neg Bool.false_ne_true, h3, Option.bind_some, if_pos rfl]) (Ev.now _)⟩
        | false => exact ⟨_, Ev.congr (fun k => by unfold label_term.f; rw [hp, Option.bind_some, if_neg Bool.false_ne_true, hc1, Option.bind_some, if_neg Bool.false_ne_true, h2, Option.bind_some, if_neg Bool.false_ne_true, h3, Option.bind_some, if_neg Bool.false_ne_true]) (Ev.now _)⟩
end Go.Proofs.YteaiobgnhlpblaaDoor.Q
namespace Go.Proofs.YteaiobgnhlpblaaDoor.Q
open Go.RowKit Go.Proofs.YteaiobgnhlpblaaDoorW.PrintWords Go.Proofs.YteaiobgnhlpblaaDoorW.PrintLast Go.Proofs.YteaiobgnhlpblaaDoor.Pl
set_option linter.unusedVariables false
set_option linter.unusedSimpArgs false
theorem bt_toB (l : List UInt8) (i : Nat) (h : i < l.length) : bt (toB l) (i : Int) = ((l[i]).toNat : Int) := by
  rw [← bt_get (toB l) i (by rw [toB_size]; exact h)]
  rfl
theorem name_byte {l : List UInt8} (h : nameL l = true) (i : Nat) (hi : i < l.length) (c : UInt8) (hc : okByte c = false) (n : Int) (hn : (c.toNat : Int) = n) : ((l[i]).toNat : Int) ≠ n := by
  intro e
  have : l[i] = c := UInt8.toNat_inj.1 (by omega)
  exact name_not h c hc (this ▸ List.getElem_mem hi)
theorem rd_scan (key rest : List UInt8) (hk : nameL key = true) (hs : (key ++ rest).length ≤ 1048576) (r : ByteArray × Int × List ByteArray)
    (h : Ev (fun k => bursarref04_read.l0 k (toB (key ++ rest)) (key.length : Int)) r) (d : Nat) : ∀ i : Nat, i + d = key.length → Ev (fun k => bursarref04_read.l0 k (toB (key ++ rest)) (i : Int)) r := by
  induction d with
  | zero => intro i hi; obtain rfl : i = key.length := by omega
            exact h
  | succ d ih =>
    intro i hi
    have hlt : i < key.length := by omega
    have hl : (key ++ rest).length = key.length + rest.length := List.length_append
    have hb : bt (toB (key ++ rest)) (i : Int) = ((key[i]).toNat : Int) := by
      rw [bt_toB _ i (by omega), List.getElem_append_left hlt]
    refine Ev.step (fun k => ?_) (ih (i + 1) (by omega))
    simp only [bursarref04_read.l0]
    rw [if_pos (by rw [toB_size]; omega), if_pos (by omega), hb, if_neg (name_byte hk i hlt 61 (by decide) 61 rfl), if_neg (name_byte hk i hlt 33 (by decide) 33 rfl), if_neg (name_byte hk i hlt 32 (by decide) 32 rfl), w64 i (by omega)]
theorem rd_enter (key rest : List UInt8) (hk : nameL key = true) (hs : (key ++ rest).length ≤ 1048576) (r : ByteArray × Int × List ByteArray)
    (h : Ev (fun k => bursarref04_read.l0 k (toB (key ++ rest)) (key.length : Int)) r) : Ev (fun k => bursarref04_read.f k (toB (key ++ rest))) r := by
  have hl : (key ++ rest).length = key.length + rest.length := List.length_append
  have h1 := name_len hk
  have h0 := rd_scan key rest hk hs r h key.length 0 (by omega)
  have hb : bt (toB (key ++ rest)) 0 = ((key[0]).toNat : Int) := by
    have := bt_toB (key ++ rest) 0 (by omega)
    rw [List.getElem_append_left (by omega)] at this
    exact this
  have hn : (bt (toB (key ++ rest)) 0 == 33) = false := by rw [hb, beq_eq_false_iff_ne]; exact name_byte hk 0 (by omega) 33 (by decide) 33 rfl
  refine Ev.congr (f := fun k => bursarref04_read.j0 k (toB (key ++ rest)) false) (fun k => ?_) (Ev.step (fun k => by simp only [bursarref04_read.j0]; rw [if_neg (by decide)]; rfl) h0)
  unfold bursarref04_read.f
  rw [if_pos (by rw [toB_size]; omega), if_pos (by rw [toB_size]; omega), hn]
theorem rd_l1 (key : ByteArray) (how : Int) (word v : List UInt8) (mid : List (List UInt8)) (z : List UInt8) (hm : mid.length ≤ 6) (hz : z.length ≤ 1048576) (d : Nat) : ∀ m : Nat, m + d = mid.length →
    Ev (fun k => bursarref04_read.l1 k ((word :: (40 :: v) :: (mid ++ [z ++ [41]])).map toB) ((m + 2 : Nat) : Int) key how ((v :: mid.take m).map toB)) (key, how, (v :: (mid ++ [z])).map toB) := by
  have hlen : ((word :: (40 :: v) :: (mid ++ [z ++ [41]])).map toB).length = mid.length + 3 := by simp
  have hwl : wrap64 (((mid.length + 3 : Nat) : Int) - 1) = ((mid.length + 2 : Nat) : Int) := by unfold wrap64; omega
  generalize hw : word :: (40 :: v) :: (mid ++ [z ++ [41]]) = w at *
  have hwlen : w.length = mid.length + 3 := by rw [← hw]; simp
  induction d with
  | zero =>
    intro m hmm
    have hmm' : m = mid.length := by omega
    subst hmm'
    rw [List.take_length]
    have hg : w[mid.length + 2]'(by omega) = z ++ [41] := by subst hw; simp
    have hrd : rdOf ByteArray.empty (w.map toB) ((mid.length + 2 : Nat) : Int) = toB (z ++ [41]) := by rw [rd_map w _ (by omega), hg]
    have hzs : (toB (z ++ [41])).size = z.length + 1 := by rw [toB_size]; simp
    have hwz : wrap64 (((z.length + 1 : Nat) : Int) - 1) = (z.length : Int) := by unfold wrap64; omega
    refine Ev.step (f := fun k => bursarref04_read.j4 k (w.map toB) ((mid.length + 2 : Nat) : Int) (toB (z ++ [41])) false key how ((v :: mid).map toB)) (fun k => ?_) ?_
    · simp only [bursarref04_read.l1]
      rw [if_pos (by omega), if_pos (by omega), if_neg (by omega), hrd]
    refine Ev.step (f := fun k => bursarref04_read.l1 k (w.map toB) ((mid.length + 3 : Nat) : Int) key how ((v :: mid).map toB ++ [toB z])) (fun k => ?_) ?_
    · simp only [bursarref04_read.j4]
      rw [if_neg (by decide), hlen, hwl, if_pos rfl, hzs, if_pos (by omega), hwz, if_pos (by omega), if_pos (by omega), if_pos (by simp; omega), w64 (mid.length + 2) (by omega), Int.toNat_natCast, ext_toB, List.take_left, List.drop_zero]
    refine Ev.step (f := fun _ => some (key, how, (v :: (mid ++ [z])).map toB)) (fun k => ?_) (Ev.now _)
    simp only [bursarref04_read.l1]
    rw [if_neg (by omega)]
    simp
  | succ d ih =>
    intro m hmm
    have hlt : m < mid.length := by omega
    have hg : w[m + 2]'(by omega) = mid[m] := by subst hw; simp [List.getElem_append_left hlt]
    have hrd : rdOf ByteArray.empty (w.map toB) ((m + 2 : Nat) : Int) = toB mid[m] := by rw [rd_map w _ (by omega), hg]
    have hih := ih (m + 1) (by omega)
    refine Ev.step (f := fun k => bursarref04_read.j4 k (w.map toB) ((m + 2 : Nat) : Int) (toB mid[m]) false key how ((v :: mid.take m).map toB)) (fun k => ?_) ?_
    · simp only [bursarref04_read.l1]
      rw [if_pos (by omega), if_pos (by omega), if_neg (by omega), hrd]
    rw [show m + 1 + 2 = m + 2 + 1 by omega, List.take_succ_eq_append_getElem hlt, show (v :: (mid.take m ++ [mid[m]])).map toB = (v :: mid.take m).map toB ++ [toB mid[m]] by rw [← List.cons_append, List.map_append]; rfl] at hih
    refine Ev.step (fun k => ?_) hih
    simp only [bursarref04_read.j4]
    rw [if_neg (by decide), hlen, hwl, if_neg (by omega), if_pos (by simp; omega), w64 (m + 2) (by omega)]
set_option maxHeartbeats 2000000 in
theorem rd_many (key : List UInt8) (hk : nameL key = true) (how : Int) (word v : List UInt8) (mid : List (List UInt8)) (z : List UInt8) (hm : mid.length ≤ 6) (hv : (v :: (mid ++ [z])).all nameL = true) (hw : (32 : UInt8) ∉ word)
    (hhow : (if word = [110, 111, 116, 105, 110] then (1 : Int) else 0) = how) (hs : (key ++ (32 :: (word ++ 32 :: ((40 :: Lib.join (v :: (mid ++ [z])) [32]) ++ [41])))).length ≤ 1048576) :
    Ev (fun k => bursarref04_read.f k (toB (key ++ (32 :: (word ++ 32 :: ((40 :: Lib.join (v :: (mid ++ [z])) [32]) ++ [41])))))) (toB key, how, (v :: (mid ++ [z])).map toB) := by
  have hfree : ∀ p ∈ v :: (mid ++ [z]), (32 : UInt8) ∉ p := fun p hp => name_not (List.all_eq_true.1 hv p hp) 32 (by decide)
  have hpc : pcs 32 (word ++ 32 :: ((40 :: Lib.join (v :: (mid ++ [z])) [32]) ++ [41])) = word :: (40 :: v) :: (mid ++ [z ++ [41]]) := by
    have := pcs_of_names 32 word ((40 :: v) :: (mid ++ [z ++ [41]])) (by
      intro p hp
      simp only [List.mem_cons, List.mem_append, List.not_mem_nil, or_false] at hp
      rcases hp with rfl | rfl | hp | rfl
      · exact hw
      · have := hfree v (by simp); simp [this]
      · exact hfree p (by simp [hp])
      · have := hfree z (by simp); simp [this])
    rw [← this, Lib.join_cons]
    simp [Lib.joinTail]
  have hvz : v.length ≤ 1048576 ∧ z.length ≤ 1048576 := by
    have h1 := (name_len (List.all_eq_true.1 hv v (by simp))).2
    have h2 := (name_len (List.all_eq_true.1 hv z (by simp))).2
    omega
  generalize hrest : word ++ 32 :: ((40 :: Lib.join (v :: (mid ++ [z])) [32]) ++ [41]) = rest at *
  have hl : (key ++ (32 :: rest)).length = key.length + (rest.length + 1) := by simp
  refine rd_enter key (32 :: rest) hk hs _ ?_
  have hb : bt (toB (key ++ 32 :: rest)) (key.length : Int) = 32 := by
    rw [bt_toB _ _ (by omega), List.getElem_append_right (Nat.le_refl _)]
    simp
  have hx : (toB (key ++ 32 :: rest)).extract (key.length + 1) (toB (key ++ 32 :: rest)).size = toB rest := by
    rw [ext_toB, toB_size, List.take_length, ← List.drop_drop, List.drop_left]; rfl
  have hy : (toB (key ++ 32 :: rest)).extract 0 key.length = toB key := by
    rw [ext_toB, List.take_left, List.drop_zero]
  have hp := pieces_ev (toB rest) 32 (by rw [toB_size]; omega)
  rw [toB_list, hpc] at hp
  have hlen : ((word :: (40 :: v) :: (mid ++ [z ++ [41]])).map toB).length = mid.length + 3 := by simp
  have hr0 : rdOf ByteArray.empty ((word :: (40 :: v) :: (mid ++ [z ++ [41]])).map toB) 0 = toB word := rfl
  have hr1 : rdOf ByteArray.empty ((word :: (40 :: v) :: (mid ++ [z ++ [41]])).map toB) 1 = toB (40 :: v) := rfl
  have hl1 := rd_l1 (toB key) how word v mid z hm hvz.2 mid.length 0 (by omega)
  have hwl : wrap64 (((mid.length + 3 : Nat) : Int) - 1) = ((mid.length + 2 : Nat) : Int) := by unfold wrap64; omega
  have hj2 : Ev (fun k => bursarref04_read.j2 k ((word :: (40 :: v) :: (mid ++ [z ++ [41]])).map toB) (toB key) how) (toB key, how, (v :: (mid ++ [z])).map toB) := by
    refine Ev.step (fun k => by simp only [bursarref04_read.j2]) (f := fun k => bursarref04_read.l1 k ((word :: (40 :: v) :: (mid ++ [z ++ [41]])).map toB) 1 (toB key) how []) ?_
    refine Ev.step (f := fun k => bursarref04_read.j4 k ((word :: (40 :: v) :: (mid ++ [z ++ [41]])).map toB) 1 (toB (40 :: v)) true (toB key) how []) (fun k => ?_) ?_
    · simp only [bursarref04_read.l1]
      rw [if_pos (by omega), if_pos (by omega), if_pos trivial, hr1, decide_eq_true (by rw [toB_size]; simp)]
    refine Ev.step (fun k => ?_) hl1
    simp only [bursarref04_read.j4]
    rw [if_pos trivial, if_pos (by rw [toB_size]; simp; omega), hlen, hwl, if_neg (by omega), if_pos (by decide), toB_size, ext_toB, List.take_length, show wrap64 (1 + 1) = ((0 + 2 : Nat) : Int) by unfold wrap64; omega]
    rfl
  refine Ev.step (f := fun k => (bursarref04_pieces.f k (toB rest) 32).bind fun t170 => (if 0 < (t170.length : Int) then (if (rdOf ByteArray.empty t170 0).toList = ([110, 111, 116, 105, 110] : List UInt8) then (bursarref04_read.j2 k t170 (toB key) 1) else (bursarref04_read.j2 k t170 (toB key) 0)) else (none))) (fun k => ?_) ?_
  · simp only [bursarref04_read.l0]
    rw [if_pos (by rw [toB_size]; omega), if_pos (by omega), hb, if_neg (by decide), if_neg (by decide), if_pos rfl, w64 key.length (by omega), if_pos (by omega), if_pos (by rw [toB_size]; omega), Int.toNat_natCast, hx]
    congr 1
    funext t
    rw [if_pos (by rw [toB_size]; omega), Int.toNat_natCast, hy]
  · refine Ev.bind hp ?_
    refine Ev.congr (fun k => if_pos (by rw [hlen]; omega)) ?_
    rw [hr0]
    by_cases hc : word = [110, 111, 116, 105, 110]
    · rw [if_pos hc] at hhow
      subst hhow
      exact Ev.congr (fun k => if_pos (lit_list.2 (by rw [toB_list]; exact hc))) hj2
    · rw [if_neg hc] at hhow
      subst hhow
      exact Ev.congr (fun k => if_neg (fun h => hc (by have := lit_list.1 h; rwa [toB_list] at this))) hj2
set_option maxHeartbeats 2000000 in
theorem read_again (t : S45) (h : Good t) : Ev (fun k => bursarref04_read.f k (toB (wS t))) (tr t) := by
  have hwl := wS_len h
  cases h with
  | has key hk =>
    rw [show (⟨toB key, 2, []⟩ : S45) = ⟨toB key, 2, [].map toB⟩ from rfl, wS_mk] at hwl ⊢
    have e : wL key 2 [] = key ++ [] := by rw [List.append_nil]; rfl
    rw [e] at hwl ⊢
    refine rd_enter key [] hk (by omega) _ ?_
    refine Ev.step (f := fun _ => some (toB key, 2, [])) (fun k => ?_) (Ev.now _)
    simp only [bursarref04_read.l0]
    rw [if_neg (by rw [toB_size]; simp), List.append_nil]
  | hasNot key hk =>
    rw [show (⟨toB key, 3, []⟩ : S45) = ⟨toB key, 3, [].map toB⟩ from rfl, wS_mk] at hwl ⊢
    have e : wL key 3 [] = 33 :: key := rfl
    rw [e] at hwl ⊢
    have hb : (bt (toB (33 :: key)) 0 == 33) = true := rfl
    refine Ev.congr (f := fun k => bursarref04_read.j0 k (toB (33 :: key)) true) (fun k => ?_) (Ev.step (f := fun _ => some (toB key, 3, [])) (fun k => ?_) (Ev.now _))
    · unfold bursarref04_read.f
      rw [if_pos (by rw [toB_size]; simp), if_pos (by rw [toB_size]; simp), hb]
    · simp only [bursarref04_read.j0]
      rw [if_pos trivial, if_pos (by rw [toB_size]; simp; omega), ext_toB, toB_size, List.take_length]
      rfl
  | one key hk how hh v hv =>
    rw [wS_mk] at hwl ⊢
    rcases hh with rfl | rfl
    · have e : wL key 0 [v] = key ++ 61 :: v := rfl
      rw [e] at hwl ⊢
      have hl : (key ++ 61 :: v).length = key.length + (v.length + 1) := by simp
      refine rd_enter key (61 :: v) hk (by omega) _ ?_
      have hb : bt (toB (key ++ 61 :: v)) (key.length : Int) = 61 := by
        rw [bt_toB _ _ (by omega), List.getElem_append_right (Nat.le_refl _)]
        simp
      have hx : (toB (key ++ 61 :: v)).extract (key.length + 1) (toB (key ++ 61 :: v)).size = toB v := by
        rw [ext_toB, toB_size, List.take_length, ← List.drop_drop, List.drop_left]; rfl
      have hy : (toB (key ++ 61 :: v)).extract 0 key.length = toB key := by
        rw [ext_toB, List.take_left, List.drop_zero]
      refine Ev.step (f := fun _ => some (toB key, 0, [toB v])) (fun k => ?_) (Ev.now _)
      simp only [bursarref04_read.l0]
      rw [if_pos (by rw [toB_size]; omega), if_pos (by omega), hb, if_pos rfl, if_pos (by rw [toB_size]; omega), w64 key.length (by omega), if_pos (by omega), if_pos (by rw [toB_size]; omega), Int.toNat_natCast, Int.toNat_natCast, hx, hy]
    · have e : wL key 1 [v] = key ++ 33 :: 61 :: v := rfl
      rw [e] at hwl ⊢
      have hl : (key ++ 33 :: 61 :: v).length = key.length + (v.length + 2) := by simp
      refine rd_enter key (33 :: 61 :: v) hk (by omega) _ ?_
      have hb : bt (toB (key ++ 33 :: 61 :: v)) (key.length : Int) = 33 := by
        rw [bt_toB _ _ (by omega), List.getElem_append_right (Nat.le_refl _)]
        simp
      have hb2 : bt (toB (key ++ 33 :: 61 :: v)) ((key.length + 1 : Nat) : Int) = 61 := by
        rw [bt_toB _ _ (by omega), List.getElem_append_right (by omega)]
        simp
      have hx : (toB (key ++ 33 :: 61 :: v)).extract (key.length + 2) (toB (key ++ 33 :: 61 :: v)).size = toB v := by
        rw [ext_toB, toB_size, List.take_length, ← List.drop_drop, List.drop_left]; rfl
      have hy : (toB (key ++ 33 :: 61 :: v)).extract 0 key.length = toB key := by
        rw [ext_toB, List.take_left, List.drop_zero]
      have hw2 : wrap64 ((key.length : Int) + 2) = ((key.length + 2 : Nat) : Int) := by unfold wrap64; omega
      refine Ev.step (f := fun _ => some (toB key, 1, [toB v])) (fun k => ?_) (Ev.now _)
      simp only [bursarref04_read.l0]
      rw [if_pos (by rw [toB_size]; omega), if_pos (by omega), hb, if_neg (by decide), if_pos rfl, w64 key.length (by omega), if_pos (by rw [toB_size]; omega), if_pos (by omega), hb2, if_pos rfl, if_pos (by rw [toB_size]; omega), hw2, if_pos (by omega), if_pos (by rw [toB_size]; omega), Int.toNat_natCast, Int.toNat_natCast, hx, hy]
  | many key hk how hh v mid z hv hl =>
    have hne : ¬ (v :: (mid ++ [z])).length = 1 := by simp
    rw [wS_mk] at hwl ⊢
    rcases hh with rfl | rfl
    · have e : wL key 0 (v :: (mid ++ [z])) = key ++ (32 :: ([105, 110] ++ 32 :: ((40 :: Lib.join (v :: (mid ++ [z])) [32]) ++ [41]))) := by unfold wL; rw [if_neg (by decide), if_neg (by decide), if_neg hne, if_neg (by decide)]; rfl
      rw [e] at hwl ⊢
      exact rd_many key hk 0 [105, 110] v mid z hl hv (by decide) (if_neg (by decide)) (by omega)
    · have e : wL key 1 (v :: (mid ++ [z])) = key ++ (32 :: ([110, 111, 116, 105, 110] ++ 32 :: ((40 :: Lib.join (v :: (mid ++ [z])) [32]) ++ [41]))) := by unfold wL; rw [if_neg (by decide), if_neg (by decide), if_neg hne, if_pos rfl]; rfl
      rw [e] at hwl ⊢
      exact rd_many key hk 1 [110, 111, 116, 105, 110] v mid z hl hv (by decide) (if_pos rfl) (by omega)
theorem j4_total (w : List ByteArray) (i : Nat) (x : ByteArray) (b : Bool) (key : ByteArray) (how : Int) (acc : List ByteArray) (hw : w.length ≤ 4000000) (h1 : 1 ≤ w.length) (hx : x.size ≤ 4000000) (ha : acc.length ≤ 4000000) (hb : b = true → 1 ≤ x.size) (hi : i ≤ 4000000) :
    ∃ y, ∀ k, bursarref04_read.j4 (k + 1) w (i : Int) x b key how acc = bursarref04_read.l1 k w ((i + 1 : Nat) : Int) key how (acc ++ [y]) := by
  have hwl : wrap64 ((w.length : Int) - 1) = (w.length : Int) - 1 := by unfold wrap64; omega
  have hwx : wrap64 ((x.size : Int) - 1) = (x.size : Int) - 1 := by unfold wrap64; omega
  have hx1 : (x.extract 1 x.size).size ≤ 4000000 := by rw [← size_list, ext_list, List.length_drop, List.length_take, size_list]; omega
  have hwx1 : wrap64 (((x.extract 1 x.size).size : Int) - 1) = ((x.extract 1 x.size).size : Int) - 1 := by unfold wrap64; omega
  have hw1 := w64 i (by omega)
  cases b with
  | true =>
    have := hb rfl
    by_cases h2 : (i : Int) = (w.length : Int) - 1
    · by_cases h3 : ((x.extract 1 x.size).size : Int) > 0
      · exact ⟨_, fun k => by simp only [bursarref04_read.j4]; rw [if_pos trivial, if_pos (by omega), hwl, if_pos h2, if_pos h3, hwx1, if_pos (by omega), if_pos (by omega), if_pos (by omega), hw1]⟩
      · exact ⟨_, fun k => by simp only [bursarref04_read.j4]; rw [if_pos trivial, if_pos (by omega), hwl, if_pos h2, if_neg h3, if_pos (by omega), hw1]⟩
    · exact ⟨_, fun k => by simp only [bursarref04_read.j4]; rw [if_pos trivial, if_pos (by omega), hwl, if_neg h2, if_pos (by omega), hw1]⟩
  | false =>
    by_cases h2 : (i : Int) = (w.length : Int) - 1
    · by_cases h3 : (x.size : Int) > 0
      · exact ⟨_, fun k => by simp only [bursarref04_read.j4]; rw [if_neg (by decide), hwl, if_pos h2, if_pos h3, hwx, if_pos (by omega), if_pos (by omega), if_pos (by omega), hw1]⟩
      · exact ⟨_, fun k => by simp only [bursarref04_read.j4]; rw [if_neg (by decide), hwl, if_pos h2, if_neg h3, if_pos (by omega), hw1]⟩
    · exact ⟨_, fun k => by simp only [bursarref04_read.j4]; rw [if_neg (by decide), hwl, if_neg h2, if_pos (by omega), hw1]⟩
theorem l1_total (w : List ByteArray) (key : ByteArray) (how : Int) (hw : w.length ≤ 2000000) (h1 : 1 ≤ w.length) (hs : ∀ x ∈ w, x.size ≤ 2000000) (d : Nat) : ∀ (i : Nat) (acc : List ByteArray), i + d = w.length → acc.length ≤ i →
    ∃ r, Ev (fun k => bursarref04_read.l1 k w (i : Int) key how acc) r := by
  induction d with
  | zero =>
    intro i acc hi _
    exact ⟨_, Ev.step (fun k => by simp only [bursarref04_read.l1]; rw [if_neg (by omega)]) (Ev.now _)⟩
  | succ d ih =>
    intro i acc hi ha
    have hlt : i < w.length := by omega
    have hrd := rd_at w i hlt
    have hx := hs _ (List.getElem_mem hlt)
    by_cases h2 : i = 1
    · subst h2
      obtain ⟨y, hy⟩ := j4_total w 1 w[1] (decide (((w[1]).size : Int) > 0)) key how acc (by omega) h1 (by omega) (by omega) (fun h => by have := of_decide_eq_true h; omega) (by omega)
      obtain ⟨r, hr⟩ := ih 2 (acc ++ [y]) (by omega) (by simp; omega)
      refine ⟨r, Ev.step (f := fun k => bursarref04_read.j4 k w ((1 : Nat) : Int) w[1] (decide (((w[1]).size : Int) > 0)) key how acc) (fun k => ?_) (Ev.step hy hr)⟩
      simp only [bursarref04_read.l1]
      rw [if_pos (by omega), if_pos (by omega), hrd, if_pos (by rfl)]
    · obtain ⟨y, hy⟩ := j4_total w i w[i] false key how acc (by omega) h1 (by omega) (by omega) (fun h => by cases h) (by omega)
      obtain ⟨r, hr⟩ := ih (i + 1) (acc ++ [y]) (by omega) (by simp; omega)
      refine ⟨r, Ev.step (f := fun k => bursarref04_read.j4 k w (i : Int) w[i] false key how acc) (fun k => ?_) (Ev.step hy hr)⟩
      simp only [bursarref04_read.l1]
      rw [if_pos (by omega), if_pos (by omega), hrd, if_neg (by omega)]
theorem l0_total (s : ByteArray) (hs : s.size ≤ 1048576) (d : Nat) : ∀ i : Nat, i + d = s.size → ∃ r, Ev (fun k => bursarref04_read.l0 k s (i : Int)) r := by
  induction d with
  | zero =>
    intro i hi
    exact ⟨_, Ev.step (fun k => by simp only [bursarref04_read.l0]; rw [if_neg (by omega)]) (Ev.now _)⟩
  | succ d ih =>
    intro i hi
    have hw1 := w64 i (by omega)
    have hw2 : wrap64 ((i : Int) + 2) = ((i + 2 : Nat) : Int) := by unfold wrap64; omega
    obtain ⟨r, hr⟩ := ih (i + 1) (by omega)
    by_cases h61 : bt s (i : Int) = 61
    · exact ⟨_, Ev.step (fun k => by simp only [bursarref04_read.l0]; rw [if_pos (by omega), if_pos (by omega), if_pos h61, if_pos (by omega), hw1, if_pos (by omega), if_pos (by omega)]) (Ev.now _)⟩
    by_cases h33 : bt s (i : Int) = 33
    · by_cases hl : i + 1 < s.size
      · by_cases h2 : bt s ((i + 1 : Nat) : Int) = 61
        · exact ⟨_, Ev.step (fun k => by simp only [bursarref04_read.l0]; rw [if_pos (by omega), if_pos (by omega), if_neg h61, if_pos h33, hw1, if_pos (by omega), if_pos (by omega), if_pos h2, if_pos (by omega), hw2, if_pos (by omega), if_pos (by omega)]) (Ev.now _)⟩
        · exact ⟨r, Ev.step (fun k => by simp only [bursarref04_read.l0]; rw [if_pos (by omega), if_pos (by omega), if_neg h61, if_pos h33, hw1, if_pos (by omega), if_pos (by omega), if_neg h2]) hr⟩
      · exact ⟨r, Ev.step (fun k => by simp only [bursarref04_read.l0]; rw [if_pos (by omega), if_pos (by omega), if_neg h61, if_pos h33, hw1, if_neg (by omega)]) hr⟩
    by_cases h32 : bt s (i : Int) = 32
    · have hxs : (s.extract ((i + 1 : Nat) : Int).toNat s.size).size ≤ 1048576 := by rw [← size_list, ext_list, List.length_drop, List.length_take, size_list]; omega
      have hp := pieces_ev (s.extract ((i + 1 : Nat) : Int).toNat s.size) 32 hxs
      have hne := pcs_ne 32 (s.extract ((i + 1 : Nat) : Int).toNat s.size).data.toList
      have hle := pcs_length_le 32 (s.extract ((i + 1 : Nat) : Int).toNat s.size).data.toList
      have hpl := pcs_le 32 (s.extract ((i + 1 : Nat) : Int).toNat s.size).data.toList
      rw [size_list] at hle hpl
      generalize hwg : (pcs 32 (s.extract ((i + 1 : Nat) : Int).toNat s.size).data.toList) = w at *
      have h1 : 1 ≤ w.length := by cases w with
        | nil => exact absurd rfl hne
        | cons _ _ => simp
      have hsz : ∀ x ∈ w.map toB, x.size ≤ 2000000 := by
        intro x hx
        obtain ⟨p, hp, rfl⟩ := List.mem_map.1 hx
        rw [toB_size]
        have := hpl p hp
        omega
      have hj2 : ∀ how, ∃ r, Ev (fun k => bursarref04_read.j2 k (w.map toB) (s.extract 0 (i : Int).toNat) how) r := by
        intro how
        by_cases hl1 : 1 ≤ w.length
        · have : ∃ r, Ev (fun k => bursarref04_read.l1 k (w.map toB) ((1 : Nat) : Int) (s.extract 0 (i : Int).toNat) how []) r := l1_total (w.map toB) _ how (by simp; omega) (by simp; omega) hsz (w.length - 1) 1 [] (by simp; omega) (by simp)
          obtain ⟨r, hr⟩ := this
          exact ⟨r, Ev.step (fun k => by simp only [bursarref04_read.j2]; rfl) hr⟩
        · omega
      have hst : ∀ k, bursarref04_read.l0 (k + 1) s (i : Int) = (bursarref04_pieces.f k (s.extract ((i + 1 : Nat) : Int).toNat s.size) 32).bind fun t170 => (if (i : Int) ≤ (s.size : Int) then (if 0 < (t170.length : Int) then (if (rdOf ByteArray.empty t170 0).toList = ([110, 111, 116, 105, 110] : List UInt8) then (bursarref04_read.j2 k t170 (s.extract 0 (i : Int).toNat) 1) else (bursarref04_read.j2 k t170 (s.extract 0 (i : Int).toNat) 0)) else (none)) else (none)) := fun k => by
        simp only [bursarref04_read.l0]
        rw [if_pos (by omega), if_pos (by omega), if_neg h61, if_neg h33, if_pos h32, hw1, if_pos (by omega), if_pos (by omega)]
      by_cases hnot : (rdOf ByteArray.empty (w.map toB) 0).toList = ([110, 111, 116, 105, 110] : List UInt8)
      · obtain ⟨r, hr⟩ := hj2 1
        exact ⟨r, Ev.step hst (Ev.bind hp (Ev.congr (fun k => (if_pos (by omega)).trans ((if_pos (by simp; omega)).trans (if_pos hnot))) hr))⟩
      · obtain ⟨r, hr⟩ := hj2 0
        exact ⟨r, Ev.step hst (Ev.bind hp (Ev.congr (fun k => (if_pos (by omega)).trans ((if_pos (by simp; omega)).trans (if_neg hnot))) hr))⟩
    · exact ⟨r, Ev.step (fun k => by simp only [bursarref04_read.l0]; rw [if_pos (by omega), if_pos (by omega), if_neg h61, if_neg h33, if_neg h32, hw1]) hr⟩
theorem read_total (s : ByteArray) (hs : s.size ≤ 1048576) : ∃ r, Ev (fun k => bursarref04_read.f k s) r := by
  have hj0 : ∀ b : Bool, (b = true → 1 ≤ s.size) → ∃ r, Ev (fun k => bursarref04_read.j0 k s b) r := by
    intro b hb
    cases b with
    | true => exact ⟨_, Ev.step (fun k => by simp only [bursarref04_read.j0]; rw [if_pos trivial, if_pos (by have := hb rfl; omega)]) (Ev.now _)⟩
    | false =>
      obtain ⟨r, hr⟩ := l0_total s hs s.size 0 (by omega)
      exact ⟨r, Ev.step (fun k => by simp only [bursarref04_read.j0]; rw [if_neg (by decide)]; rfl) hr⟩
  by_cases h : (s.size : Int) > 0
  · obtain ⟨r, hr⟩ := hj0 (bt s 0 == 33) (fun _ => by omega)
    exact ⟨r, Ev.congr (fun k => by unfold bursarref04_read.f; rw [if_pos h, if_pos (by omega)]) hr⟩
  · obtain ⟨r, hr⟩ := hj0 false (fun h => by cases h)
    exact ⟨r, Ev.congr (fun k => by unfold bursarref04_read.f; rw [if_neg h]) hr⟩
end Go.Proofs.YteaiobgnhlpblaaDoor.Q
namespace Go.Proofs.YteaiobgnhlpblaaDoor.Q
open Go.RowKit Go.Proofs.YteaiobgnhlpblaaDoorW.PrintWords Go.Proofs.YteaiobgnhlpblaaDoorW.PrintLast Go.Proofs.YteaiobgnhlpblaaDoorW.PrintMore
attribute [local go_sem] max2_int min2_int max_two min_two max_three min_three max_four min_four   -- for this text's walks alone
set_option linter.unusedVariables false
set_option linter.unusedSimpArgs false
def bursarlaw04_own.l0 : Nat → List (S45) → List (S45) → Int → Option ((List (S45)))
  | 0, _, _, _ => none
  | k + 1, x0, x3, x4 => if x4 < (x0.length : Int) then (if 0 ≤ x4 then (if ([] : List ByteArray).length + ((rd_T45 x0 x4).f2).length < 8796093022208 then (if x3.length < 2932031007402 then (bursarlaw04_own.l0 k x0 (x3 ++ [(⟨(rd_T45 x0 x4).f0, (rd_T45 x0 x4).f1, (([] : List ByteArray) ++ ((rd_T45 x0 x4).f2))⟩ : S45)]) (wrap64 (x4 + 1))) else (none)) else (none)) else (none)) else (some x3)
def bursarlaw04_own.f (k : Nat) (l0 : List (S45)) : Option ((List (S45))) := bursarlaw04_own.l0 k l0 ([] : List (S45)) 0
theorem bursarlaw04_own.mono_l : ∀ k, (∀ y0 y1 y2, LeO (bursarlaw04_own.l0 k y0 y1 y2) (bursarlaw04_own.l0 (k + 1) y0 y1 y2))
  | 0 => fun _ _ _ r h => by simp [bursarlaw04_own.l0] at h
  | k + 1 => by
    have ih0 := bursarlaw04_own.mono_l k
    · intro y0 y1 y2
      unfold bursarlaw04_own.l0
      repeat' first
      | (with_reducible exact ih0 _ _ _)
      | (with_reducible exact LeO.refl _)
      | (with_reducible exact LeO.none _)
      | (with_reducible refine LeO.ite ?_ ?_)
      | (with_reducible refine LeO.bind ?_ (fun _ => ?_))
      | exact ih0 _ _ _
      | exact LeO.none _
      | refine LeO.ite ?_ ?_
      | refine LeO.bind ?_ (fun _ => ?_)
theorem bursarlaw04_own.mono : ∀ a0 k, LeO (bursarlaw04_own.f k a0) (bursarlaw04_own.f (k + 1) a0) := by
  intro a0 k
  have ih0 := bursarlaw04_own.mono_l k
  unfold bursarlaw04_own.f
  repeat' first
      | (with_reducible exact ih0 _ _ _)
      | (with_reducible exact LeO.refl _)
      | (with_reducible exact LeO.none _)
      | (with_reducible refine LeO.ite ?_ ?_)
      | (with_reducible refine LeO.bind ?_ (fun _ => ?_))
      | exact ih0 _ _ _
      | exact LeO.none _
      | refine LeO.ite ?_ ?_
      | refine LeO.bind ?_ (fun _ => ?_)
end Go.Proofs.YteaiobgnhlpblaaDoor.Q
namespace Go.Proofs.YteaiobgnhlpblaaDoor.Q
open Go.RowKit Go.Proofs.YteaiobgnhlpblaaDoorW.PrintWords Go.Proofs.YteaiobgnhlpblaaDoorW.PrintLast Go.Proofs.YteaiobgnhlpblaaDoor.Pl
set_option linter.unusedVariables false
set_option linter.unusedSimpArgs false
theorem wS_free {t : S45} (h : Good t) : (44 : UInt8) ∉ wS t := by
  have hf : ∀ l : List UInt8, nameL l = true → (44 : UInt8) ∉ l := fun l hl => name_not hl 44 (by decide)
  cases h with
  | has key hk =>
    rw [show (⟨toB key, 2, []⟩ : S45) = ⟨toB key, 2, [].map toB⟩ from rfl, wS_mk]
    exact hf key hk
  | hasNot key hk =>
    rw [show (⟨toB key, 3, []⟩ : S45) = ⟨toB key, 3, [].map toB⟩ from rfl, wS_mk]
    show (44 : UInt8) ∉ 33 :: key
    simp [hf key hk]
  | one key hk how hh v hv =>
    have hv' : (44 : UInt8) ∉ v := by
      rcases hv with h | h
      · exact hf v h
      · simp [h]
    rw [wS_mk]
    rcases hh with rfl | rfl
    · show (44 : UInt8) ∉ key ++ 61 :: v
      simp [hf key hk, hv']
    · show (44 : UInt8) ∉ key ++ 33 :: 61 :: v
      simp [hf key hk, hv']
  | many key hk how hh v mid z hv hl =>
    have hne : ¬ (v :: (mid ++ [z])).length = 1 := by simp
    have hj : (44 : UInt8) ∉ Lib.join (v :: (mid ++ [z])) [32] := by
      rw [Lib.join_cons]
      simp only [List.mem_append, not_or, Lib.joinTail, List.mem_flatten, List.mem_map]
      refine ⟨hf v (List.all_eq_true.1 hv v (by simp)), ?_⟩
      rintro ⟨x, ⟨y, hy, rfl⟩, hx⟩
      have hyn := hf y (List.all_eq_true.1 hv y (by simp at hy ⊢; exact .inr hy))
      simp at hx
      exact hyn hx
    rw [wS_mk]
    rcases hh with rfl | rfl
    · unfold wL; rw [if_neg (by decide), if_neg (by decide), if_neg hne, if_neg (by decide)]
      simp only [List.mem_append, not_or]
      exact ⟨hf key hk, by decide, hj, by decide⟩
    · unfold wL; rw [if_neg (by decide), if_neg (by decide), if_neg hne, if_pos rfl]
      simp only [List.mem_append, not_or]
      exact ⟨hf key hk, by decide, hj, by decide⟩
def parR (text : ByteArray) (ts : List S45) : List S45 × Int := if allB ts = true ∧ toB (pL ts) = text then (ts, 0) else ([], 43)
theorem par_end (text : ByteArray) (ts : List S45) (g : Nat → Option (ByteArray × Int)) (hg : Ev g (printS ts)) :
    Ev (fun k => (g k).bind fun bt159 => (if bt159.2 = 0 then (if bt159.1.toList = text.toList then (some (ts, 0)) else (some (([] : List (S45)), (43 : Int)))) else (some (([] : List (S45)), 43)))) (parR text ts) := by
  by_cases h : allB ts = true
  · have hp : printS ts = (toB (pL ts), 0) := by unfold printS; rw [if_pos h]
    rw [hp] at hg
    by_cases h2 : toB (pL ts) = text
    · have hR : parR text ts = (ts, 0) := by unfold parR; rw [if_pos ⟨h, h2⟩]
      rw [hR]
      exact Ev.bind hg (Ev.congr (fun k => (if_pos rfl).trans (if_pos (by rw [h2]))) (Ev.now _))
    · have hR : parR text ts = ([], 43) := by unfold parR; rw [if_neg (fun x => h2 x.2)]
      rw [hR]
      exact Ev.bind hg (Ev.congr (fun k => (if_pos rfl).trans (if_neg (fun x => h2 ((ba_iff _ _).1 x)))) (Ev.now _))
  · have hp : printS ts = (⟨#[]⟩, 43) := by unfold printS; rw [if_neg h]
    have hR : parR text ts = ([], 43) := by unfold parR; rw [if_neg (fun x => h x.1)]
    rw [hp] at hg
    rw [hR]
    exact Ev.bind hg (Ev.congr (fun k => if_neg (by show ¬ (43 : Int) = 0; decide)) (Ev.now _))
theorem lpa_loop (text : ByteArray) (ws : List (List UInt8)) (ts : List S45) (hl : ts.length = ws.length) (hw : ws.length ≤ 2000000)
    (h : ∀ (i : Nat) (hi : i < ws.length), Ev (fun k => label_term.f k (toB (ws[i]'hi))) (tr (ts[i]'(by omega)))) (d : Nat) : ∀ i : Nat, i + d = ws.length →
    Ev (fun k => label_Parse.l0 k text (ts.take i) (ws.map toB) (ws.length : Int) (i : Int)) (parR text ts) := by
  induction d with
  | zero =>
    intro i hi
    rw [List.take_of_length_le (by omega)]
    refine Ev.step (fun k => ?_) (par_end text ts (fun k => label_Print.f k ts) (print_ev ts))
    simp only [label_Parse.l0]
    rw [if_neg (by omega)]
  | succ d ih =>
    intro i hi
    have hlt : i < ws.length := by omega
    have hih := ih (i + 1) (by omega)
    rw [List.take_succ_eq_append_getElem (by omega)] at hih
    refine Ev.step (f := fun k => (label_term.f k (toB ws[i])).bind fun bt151 => (if (ts.take i).length < 2932031007402 then (label_Parse.l0 k text (ts.take i ++ [(⟨bt151.1, bt151.2.1, bt151.2.2⟩ : S45)]) (ws.map toB) (ws.length : Int) ((i + 1 : Nat) : Int)) else (none))) (fun k => ?_) ?_
    · simp only [label_Parse.l0]
      rw [if_pos (by omega), if_pos (by omega), if_pos (by simp; omega), rd_map ws i hlt, w64 i (by omega)]
    · refine Ev.bind (h i hlt) ?_
      exact Ev.congr (fun k => if_pos (by simp; omega)) hih
theorem parse_of (text : ByteArray) (hs : text.size ≤ 1048576) (hne : text ≠ ⟨#[]⟩) (ts : List S45) (hl : ts.length = (pcs 44 text.data.toList).length)
    (h : ∀ (i : Nat) (hi : i < (pcs 44 text.data.toList).length), Ev (fun k => label_term.f k (toB ((pcs 44 text.data.toList)[i]'hi))) (tr (ts[i]'(by omega)))) : Ev (fun k => label_Parse.f k text) (parR text ts) := by
  have hle := pcs_length_le 44 text.data.toList
  rw [size_list] at hle
  have hloop := lpa_loop text _ ts hl (by omega) h (pcs 44 text.data.toList).length 0 (by omega)
  refine Ev.congr (fun k => ?_) hloop
  unfold label_Parse.f
  rw [if_neg (fun e => hne (ba_ext ((lit_list.1 e).trans rfl))), split_some text 44 (by omega), Option.bind_some, List.length_map]
  rfl
theorem parseL_nil : Ev (fun k => label_Parse.f k ⟨#[]⟩) ([], 0) :=
  Ev.congr (fun k => by unfold label_Parse.f; rw [if_pos (lit_list.2 rfl)]) (Ev.now _)
theorem pL_ne {l : List S45} (h : allB l = true) (h0 : l ≠ []) : pL l ≠ [] := by
  obtain ⟨_, hg⟩ := allB_good h
  cases l with
  | nil => exact absurd rfl h0
  | cons t l =>
    intro e
    unfold pL at e
    rw [List.map_cons, Lib.join_cons] at e
    have := (wS_len (hg t (by simp))).1
    have h2 := congrArg List.length e
    simp only [List.length_append, List.length_nil] at h2
    omega
theorem parseL_yes (l : List S45) (h : allB l = true) : Ev (fun k => label_Parse.f k (toB (pL l))) (l, 0) := by
  by_cases h0 : l = []
  · subst h0
    exact parseL_nil
  obtain ⟨h8, hg⟩ := allB_good h
  have hne : toB (pL l) ≠ ⟨#[]⟩ := fun e => pL_ne h h0 (by have := congrArg (·.data.toList) e; exact this)
  have hp : pcs 44 (toB (pL l)).data.toList = l.map wS := by
    rw [toB_list]
    exact pcs_join 44 (l.map wS) (by simpa using h0) (fun p hp => by
      obtain ⟨t, ht, rfl⟩ := List.mem_map.1 hp
      exact wS_free (hg t ht))
  have hs : (toB (pL l)).size ≤ 1048576 := by
    have h1 := ws_sum l hg
    have h2 := join_len (l.map wS) [44]
    rw [toB_size]
    unfold pL
    simp only [List.length_map, List.length_cons, List.length_nil] at h2
    omega
  have hR : parR (toB (pL l)) l = (l, 0) := by unfold parR; rw [if_pos ⟨h, rfl⟩]
  have hl : l.length = (pcs 44 (toB (pL l)).data.toList).length := by rw [hp, List.length_map]
  have ha := parse_of (toB (pL l)) hs hne l hl (fun i hi => by
    have e : (pcs 44 (toB (pL l)).data.toList)[i]'hi = wS (l[i]'(by omega)) := by simp only [hp, List.getElem_map]
    rw [e]
    exact term_again _ (hg _ (List.getElem_mem _)))
  rw [hR] at ha
  exact ha
theorem each_total (g : Nat → ByteArray → Option (ByteArray × Int × List ByteArray)) (hg : ∀ s : ByteArray, s.size ≤ 1048576 → ∃ r, Ev (fun k => g k s) r) : ∀ ws : List (List UInt8), (∀ p ∈ ws, p.length ≤ 1048576) →
    ∃ ts : List S45, ∃ hl : ts.length = ws.length, ∀ (i : Nat) (hi : i < ws.length), Ev (fun k => g k (toB (ws[i]'hi))) (tr (ts[i]'(by omega)))
  | [], _ => ⟨[], rfl, fun i hi => by simp at hi⟩
  | p :: ws, h => by
    obtain ⟨ts, hl, ih⟩ := each_total g hg ws (fun q hq => h q (by simp [hq]))
    obtain ⟨⟨a, b, c⟩, hr⟩ := hg (toB p) (by rw [toB_size]; exact h p (by simp))
    refine ⟨⟨a, b, c⟩ :: ts, by simp [hl], fun i hi => ?_⟩
    cases i with
    | zero => exact hr
    | succ i => exact ih i (by simpa using hi)
theorem parseL_no (text : ByteArray) (hs : text.size ≤ 1048576) (h : ∀ l, allB l = true → toB (pL l) ≠ text) : Ev (fun k => label_Parse.f k text) ([], 43) := by
  have hne : text ≠ ⟨#[]⟩ := fun e => h [] rfl (by rw [e]; rfl)
  have hle : ∀ p ∈ pcs 44 text.data.toList, p.length ≤ 1048576 := fun p hp => by
    have := pcs_le 44 _ p hp
    rw [size_list] at this
    omega
  have hR : ∀ ts, parR text ts = ([], 43) := fun ts => by unfold parR; rw [if_neg (fun x => h ts x.1 x.2)]
  obtain ⟨ts, hl, ht⟩ := each_total (fun k s => label_term.f k s) term_total _ hle
  have ha := parse_of text hs hne ts hl ht
  rw [hR] at ha
  exact ha
theorem st_loop (l : List S45) (hl : l.length ≤ 2000000) (hv : ∀ t ∈ l, t.f2.length ≤ 2000000) (d : Nat) : ∀ i : Nat, i + d = l.length → Ev (fun k => bursarlaw04_sameTerms.l0 k l l (i : Int)) true := by
  induction d with
  | zero =>
    intro i hi
    exact Ev.step (f := fun _ => some true) (fun k => by simp only [bursarlaw04_sameTerms.l0]; rw [if_neg (by omega)]) (Ev.now _)
  | succ d ih =>
    intro i hi
    have hlt : i < l.length := by omega
    refine Ev.step (f := fun k => (bursarlaw04_sameTexts.f k l[i].f2 l[i].f2).bind fun t216 => (if t216 = true then (bursarlaw04_sameTerms.l0 k l l ((i + 1 : Nat) : Int)) else (some false))) (fun k => ?_) ?_
    · simp only [bursarlaw04_sameTerms.l0]
      rw [if_pos (by omega), if_pos (by omega), if_pos (by omega), rd45 l i hlt, if_pos trivial, if_pos trivial, w64 i (by omega)]
    · refine Ev.bind (same_ev _ (hv _ (List.getElem_mem _))) ?_
      exact Ev.congr (fun k => if_pos rfl) (ih (i + 1) (by omega))
theorem sameTerms_ev (l : List S45) (hl : l.length ≤ 2000000) (hv : ∀ t ∈ l, t.f2.length ≤ 2000000) : Ev (fun k => bursarlaw04_sameTerms.f k l l) true := by
  refine Ev.congr (fun k => ?_) (st_loop l hl hv l.length 0 (by omega))
  unfold bursarlaw04_sameTerms.f
  rw [if_pos rfl]
  rfl
theorem good_f2 {t : S45} (h : Good t) : t.f2.length ≤ 8 := by
  cases h with
  | has key hk => simp
  | hasNot key hk => simp
  | one key hk how hh v hv => simp
  | many key hk how hh v mid z hv hl => simp; omega
end Go.Proofs.YteaiobgnhlpblaaDoor.Q
namespace Go.Proofs.YteaiobgnhlpblaaDoor.Q
open Go.RowKit Go.Proofs.YteaiobgnhlpblaaDoorW.PrintWords Go.Proofs.YteaiobgnhlpblaaDoorW.PrintLast Go.Proofs.YteaiobgnhlpblaaDoor.Pl
set_option linter.unusedVariables false
set_option linter.unusedSimpArgs false
theorem rpa_loop (text : ByteArray) (ws : List (List UInt8)) (ts : List S45) (hl : ts.length = ws.length) (hw : ws.length ≤ 2000000)
    (h : ∀ (i : Nat) (hi : i < ws.length), Ev (fun k => bursarref04_read.f k (toB (ws[i]'hi))) (tr (ts[i]'(by omega)))) (d : Nat) : ∀ i : Nat, i + d = ws.length →
    Ev (fun k => bursarref04_Parse.l0 k text (ts.take i) (ws.map toB) (i : Int)) (parR text ts) := by
  induction d with
  | zero =>
    intro i hi
    rw [List.take_of_length_le (by omega)]
    refine Ev.step (fun k => ?_) (par_end text ts (fun k => bursarref04_Print.f k ts) (refPrint_ev ts (by omega)))
    simp only [bursarref04_Parse.l0]
    rw [if_neg (by simp; omega)]
  | succ d ih =>
    intro i hi
    have hlt : i < ws.length := by omega
    have hih := ih (i + 1) (by omega)
    rw [List.take_succ_eq_append_getElem (by omega)] at hih
    refine Ev.step (f := fun k => (bursarref04_read.f k (toB ws[i])).bind fun bt198 => (if (ts.take i).length < 2932031007402 then (bursarref04_Parse.l0 k text (ts.take i ++ [(⟨bt198.1, bt198.2.1, bt198.2.2⟩ : S45)]) (ws.map toB) ((i + 1 : Nat) : Int)) else (none))) (fun k => ?_) ?_
    · simp only [bursarref04_Parse.l0]
      rw [if_pos (by simp; omega), if_pos (by omega), rd_map ws i hlt, w64 i (by omega)]
    · refine Ev.bind (h i hlt) ?_
      exact Ev.congr (fun k => if_pos (by simp; omega)) hih
theorem refParse_of (text : ByteArray) (hs : text.size ≤ 1048576) (hne : text ≠ ⟨#[]⟩) (ts : List S45) (hl : ts.length = (pcs 44 text.data.toList).length)
    (h : ∀ (i : Nat) (hi : i < (pcs 44 text.data.toList).length), Ev (fun k => bursarref04_read.f k (toB ((pcs 44 text.data.toList)[i]'hi))) (tr (ts[i]'(by omega)))) : Ev (fun k => bursarref04_Parse.f k text) (parR text ts) := by
  have hle := pcs_length_le 44 text.data.toList
  rw [size_list] at hle
  have hloop := rpa_loop text _ ts hl (by omega) h (pcs 44 text.data.toList).length 0 (by omega)
  refine Ev.congr (fun k => ?_) (Ev.bind (pieces_ev text 44 hs) (f := fun k t194 => bursarref04_Parse.l0 k text ([] : List (S45)) t194 0) hloop)
  unfold bursarref04_Parse.f
  rw [if_neg (fun e => hne (ba_ext ((lit_list.1 e).trans rfl)))]
  rfl
theorem parseR_nil : Ev (fun k => bursarref04_Parse.f k ⟨#[]⟩) ([], 0) :=
  Ev.congr (fun k => by unfold bursarref04_Parse.f; rw [if_pos (lit_list.2 rfl)]) (Ev.now _)
theorem parseR_yes (l : List S45) (h : allB l = true) : Ev (fun k => bursarref04_Parse.f k (toB (pL l))) (l, 0) := by
  by_cases h0 : l = []
  · subst h0
    exact parseR_nil
  obtain ⟨h8, hg⟩ := allB_good h
  have hne : toB (pL l) ≠ ⟨#[]⟩ := fun e => pL_ne h h0 (by have := congrArg (·.data.toList) e; exact this)
  have hp : pcs 44 (toB (pL l)).data.toList = l.map wS := by
    rw [toB_list]
    exact pcs_join 44 (l.map wS) (by simpa using h0) (fun p hp => by
      obtain ⟨t, ht, rfl⟩ := List.mem_map.1 hp
      exact wS_free (hg t ht))
  have hs : (toB (pL l)).size ≤ 1048576 := by
    have h1 := ws_sum l hg
    have h2 := join_len (l.map wS) [44]
    rw [toB_size]
    unfold pL
    simp only [List.length_map, List.length_cons, List.length_nil] at h2
    omega
  have hR : parR (toB (pL l)) l = (l, 0) := by unfold parR; rw [if_pos ⟨h, rfl⟩]
  have hl : l.length = (pcs 44 (toB (pL l)).data.toList).length := by rw [hp, List.length_map]
  have hb := refParse_of (toB (pL l)) hs hne l hl (fun i hi => by
    have e : (pcs 44 (toB (pL l)).data.toList)[i]'hi = wS (l[i]'(by omega)) := by simp only [hp, List.getElem_map]
    rw [e]
    exact read_again _ (hg _ (List.getElem_mem _)))
  rw [hR] at hb
  exact hb
theorem parseR_no (text : ByteArray) (hs : text.size ≤ 1048576) (h : ∀ l, allB l = true → toB (pL l) ≠ text) : Ev (fun k => bursarref04_Parse.f k text) ([], 43) := by
  have hne : text ≠ ⟨#[]⟩ := fun e => h [] rfl (by rw [e]; rfl)
  have hle : ∀ p ∈ pcs 44 text.data.toList, p.length ≤ 1048576 := fun p hp => by
    have := pcs_le 44 _ p hp
    rw [size_list] at this
    omega
  have hR : ∀ ts, parR text ts = ([], 43) := fun ts => by unfold parR; rw [if_neg (fun x => h ts x.1 x.2)]
  obtain ⟨us, hl2, hu⟩ := each_total (fun k s => bursarref04_read.f k s) read_total _ hle
  have hb := refParse_of text hs hne us hl2 hu
  rw [hR] at hb
  exact hb
end Go.Proofs.YteaiobgnhlpblaaDoor.Q
namespace Go.Proofs.YteaiobgnhlpblaaDoor.Pure
open Go.RowKit Go.Proofs.YteaiobgnhlpblaaDoorW.PrintWords Go.Proofs.YteaiobgnhlpblaaDoorW.PrintLast Go.Proofs.YteaiobgnhlpblaaDoor.Q Go.Proofs.YteaiobgnhlpblaaDoor.Pl
set_option linter.unusedVariables false
set_option linter.unusedSimpArgs false
theorem LabelParses (text : ByteArray) (hs : text.size ≤ 1048576) : ∃ k, bursarlaw04_LabelParses.f k text = some true := by
  refine Ev.rounds ?_
  refine Ev.congr (fun k => rfl) (Ev.bind fixed_ev (f := fun k t445 => _) ?_)
  refine Ev.congr (fun k => if_pos rfl) ?_
  by_cases h : ∃ l, allB l = true ∧ toB (pL l) = text
  · obtain ⟨l, h, rfl⟩ := h
    have ha := parseL_yes l h
    have hb := parseR_yes l h
    obtain ⟨h8, hg⟩ := allB_good h
    refine Ev.bind ha (Ev.bind hb ?_)
    refine Ev.congr (fun k => if_pos rfl) ?_
    refine Ev.bind (sameTerms_ev l (by omega) (fun t ht => by have := good_f2 (hg t ht); omega)) ?_
    exact Ev.congr (fun k => (if_pos rfl).trans (if_pos rfl)) (Ev.now _)
  · have ha := parseL_no text hs (fun l hl e => h ⟨l, hl, e⟩)
    have hb := parseR_no text hs (fun l hl e => h ⟨l, hl, e⟩)
    refine Ev.bind ha (Ev.bind hb ?_)
    refine Ev.congr (fun k => if_pos rfl) ?_
    refine Ev.bind (sameTerms_ev [] (by simp) (by simp)) ?_
    exact Ev.congr (fun k => (if_pos rfl).trans (if_neg (by decide))) (Ev.now _)
end Go.Proofs.YteaiobgnhlpblaaDoor.Pure
namespace Go.Proofs.YteaiobgnhlpblaaDoor.labelParses
open Go.ChangeShapes Go.WideShapes Go.ChangeAt Go.RowKit
open Go.ChangeMaps (open_string shut_string)
set_option linter.unusedVariables false
set_option linter.unusedSimpArgs false
theorem own : ownKnob Tryd.prog.godebug = none := by kernel_rfl
theorem contract (H : Type) (enc : TypeId × Value → H) (W : World) (base : Nat) (args : Array Value) (ds gs : List (DataW H)) (before : List MemPlace)
    (hval0 : ∀ (j : Nat) t v, Tryd.f3.params[j]? = some t → args[j]? = some v → Value.okWide Tryd.prog W .any base t v)
    (hW : DataW.Whole enc Tryd.prog Tryd.f3.params.toList Rows.labelParsesSpec.vars false W args.toList ds gs before)
    (hk : Rows.uptoSmall H (ds ++ gs) = true)
    (hsh : W.ShapedOpen Tryd.prog)
    : Calls Tryd.prog 3 args W fun e W' => ∃ v, e = .returned v ∧ Rows.labelParsesSpec.post enc Tryd.prog Tryd.f3 false true false false W args v W' := by
  have hval : ∀ (j : Nat) t v, Tryd.f3.params[j]? = some t → args[j]? = some v → Value.okWide Tryd.prog W .any base t v := hval0
  have hW' := hW
  obtain ⟨p, q, hA0, hV, rfl, hfz, hnd⟩ := hW
  have hA : DataW.TrodAll enc Tryd.prog W 0 (fun _ => true) true Tryd.f3.params.toList args.toList ds p := hA0
  rw [Tryd.params3] at hA hval
  obtain ⟨v0, vs0, d0, ds0, p0, q0, hargs, rfl, rfl, h0, r0⟩ := trodAll_cons hA
  obtain ⟨rfl, rfl, rfl⟩ := trodAll_nil r0
  obtain rfl : args = #[v0] := by cases args; simp_all
  obtain ⟨rfl, rfl⟩ := trodVars_none hV
  obtain ⟨a0, rfl, rfl, rfl, y0⟩ := open_string Tryd.underlying9 (hval 0 9 v0 rfl rfl) h0
  have hb := of_decide_eq_true hk
  simp only [List.append_nil, List.cons_append, List.nil_append, Rows.uptoBulkAll, Rows.uptoBulk, Array.length_toList] at hb
  have b0 : a0.size ≤ 1048576 := by have : a0.data.size = a0.size := rfl; omega
  obtain ⟨k, hp⟩ := Pure.LabelParses a0 b0
  refine (Q.bursarlaw04_LabelParses.calls k a0 true W  hp ⟨Tryd.laysM146.s1_3 W hsh⟩).mono fun e W' ⟨he, bel⟩ => ?_
  subst he
  exact ⟨_, rfl, _, _, _, [], _, [], hW', trodAll_mk1 (shut_bool Tryd.underlying4 _), (trodAll_cons_mk (shut_string Tryd.underlying9 y0) trodAll_mk0), rfl, bel.frame _, fun h => by cases h⟩
noncomputable def tab1 : Obj → Obj
  | .cells _ t frozen => .cells (Go.Pinned.utf8FirstZ.map fun (n : Nat) => Value.int .u8 (n : Int)).toArray t frozen
  | o => o
noncomputable def tab2 : Obj → Obj
  | .cells _ t frozen => .cells #[.int .u8 128, .int .u8 191, .int .u8 160, .int .u8 191, .int .u8 128, .int .u8 159, .int .u8 144, .int .u8 191, .int .u8 128, .int .u8 143, .int .u8 0, .int .u8 0, .int .u8 0, .int .u8 0, .int .u8 0, .int .u8 0, .int .u8 0, .int .u8 0, .int .u8 0, .int .u8 0, .int .u8 0, .int .u8 0, .int .u8 0, .int .u8 0, .int .u8 0, .int .u8 0, .int .u8 0, .int .u8 0, .int .u8 0, .int .u8 0, .int .u8 0, .int .u8 0] t frozen
  | o => o
noncomputable def laidWorld (os : Os) : World :=
  { World.holding Tryd.prog os ⟨#[], #[], []⟩ with heap := ((World.holding Tryd.prog os ⟨#[], #[], []⟩).heap.modify 1 tab1).modify 2 tab2 }
theorem laid_met (os : Os) : laidMet Tryd.prog Rows.labelParsesRow.laid ((laidWorld os).forCall (fun _ _ => 0) ⟨#[], #[.string ByteArray.empty], []⟩).memory :=
  laidMet_of_run' 8 (by kernel_rfl) (by kernel_rfl)
theorem reads (os : Os) {H : Type} (enc : TypeId × Value → H) : ∃ places, DataW.whole enc Tryd.prog ((laidWorld os).forCall (fun _ _ => 0) ⟨#[], #[.string ByteArray.empty], []⟩).memory Tryd.f3.params.toList Rows.labelParsesSpec.vars false (#[.string ByteArray.empty] : Array Value).toList 8 = some ([.lit (.string [])], [], places) :=
  ⟨[], by kernel_rfl⟩
set_option maxRecDepth 100000 in
theorem lifted (os : Os) (started : os.Started) (H : Type) (enc : TypeId × Value → H) (F : Stop.Interp) :
    ReturnsInHanded {} Tryd.checked os 3 .any ((Rows.OpenSpec.upto Rows.labelParsesSpec).preRow enc Tryd.prog Tryd.f3 Rows.labelParsesUptoRow.domain false Rows.labelParsesUptoRow.laid) (((Rows.OpenSpec.upto Rows.labelParsesSpec).at F).post enc Tryd.prog Tryd.f3 false true false false) := by
  obtain ⟨places, hx⟩ := reads os enc
  refine returnsInHanded_of_row (C := Tryd.checked) (s := Rows.OpenSpec.upto Rows.labelParsesSpec) own started (by kernel_rfl) Tryd.func3
    (witness_row_at (enc := enc) (C := Tryd.checked) false (laidWorld os) #[.string ByteArray.empty] rfl (by kernel_rfl) (by kernel_rfl) (by kernel_rfl)
      (OpenSpec.preRow_of_cond 8 hx (by kernel_rfl) (fun k hk => by cases hk; kernel_rfl) (by kernel_rfl) (laid_met os))) ?_
  intro W base args ds gs before hval hW _ hcond hsz _ hsh _
  exact contract H enc W base args ds gs before hval hW (hcond _ rfl) hsh
theorem said : Rows.LabelParsesUptoSaid :=
  OpenClaim.holds_of_cond 3 Tryd.f3 rfl rfl rfl rfl rfl rfl rfl ⟨rfl, rfl, rfl, rfl, rfl⟩ rfl rfl rfl rfl rfl (by kernel_rfl) Tryd.func3 (by kernel_rfl)
    (of_decide_eq_true (by kernel_rfl)) (by unfold Func.isWrapper; first | (rw [if_pos (by decide +kernel)]; kernel_rfl) | (rw [if_neg (by decide +kernel)]; exact ⟨rfl, rfl⟩))
    (fun os started H enc _ F => by rw [OpenClaim.pre_eq_preRow]; exact lifted os started H enc F)
theorem plain (f : FuncId) (fn : Func) (hf : Tryd.pinned.checked.prog.funcNamed "bursar/bursarlaw04.LabelParses" = some f) (hfn : Tryd.pinned.checked.prog.funcs[f]? = some fn) :
    false = Tryd.pinned.checked.prog.looks [] ∧ ∀ (j : Nat) t, fn.params[j]? = some t → Tryd.pinned.checked.prog.wantsStandIn t = false := by
  obtain rfl : f = 3 := Option.some.inj ((show Tryd.prog.funcNamed "bursar/bursarlaw04.LabelParses" = some 3 by kernel_rfl).symm.trans hf) |>.symm
  obtain rfl : fn = Tryd.f3 := (Option.some.inj (Tryd.func3.symm.trans hfn)).symm
  refine ⟨by kernel_rfl, fun j t ht => ?_⟩
  rw [Tryd.params3] at ht
  have hall : ∀ x ∈ [9], Tryd.prog.wantsStandIn x = false := by
    intro x hx; simp only [List.mem_cons, List.mem_nil_iff, or_false] at hx; rcases hx with rfl <;> kernel_rfl
  exact hall t (by simpa using Array.mem_of_getElem? ht)
theorem card : Rows.LabelParsesUptoCardSaid :=
  Claim7.holds_tied_plain_at .later [] _ _ _ _ said (fun _ h => by cases h) (by kernel_rfl) (fun _ h => by cases h) labelParsesUpto_row_tie rfl ⟨rfl, rfl⟩ (by kernel_rfl) rfl plain (by kernel_rfl)
end Go.Proofs.YteaiobgnhlpblaaDoor.labelParses
namespace Go.Proofs.YteaiobgnhlpblaaDoor
theorem labelParses_holds : Rows.LabelParsesUptoCardSaid := labelParses.card
end Go.Proofs.YteaiobgnhlpblaaDoor
