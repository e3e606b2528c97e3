/- What the statement LabelReadsBackUptoCardSaid rests on, part 6 of 6: walks and plain laws; what of the printer's words it leans on. -/
import Derived.Test.YteaiobgnhlpblaaDoorRows
import Derived.Test.YteaiobgnhlpblaaDoorCards
import Derived.Test.YteaiobgnhlpblaaDoorTie
import Derived.Test.YteaiobgnhlpblaaDoorMLRB3
import Derived.Test.YteaiobgnhlpblaaDoorMLRB4
import Derived.Test.YteaiobgnhlpblaaDoorMLRB5
import Derived.Deep.Slices
import Derived.ChangeArms
import Derived.ProofKit
import Derived.WalkKit
import Derived.OpenShut
import Derived.ShutString
import Derived.ChangeOld
import Derived.Below
import Derived.SizedLaws
import Derived.Deep.DeepHandedRow
namespace Go.Proofs.YteaiobgnhlpblaaDoor.Q
open Go.RowKit Go.Proofs.YteaiobgnhlpblaaDoorW.PrintWords Go.Proofs.YteaiobgnhlpblaaDoorW.PrintLast Go.Proofs.YteaiobgnhlpblaaDoor.Pl
set_option linter.unusedVariables false
set_option linter.unusedSimpArgs false
theorem hasPrefix_lite (s p : ByteArray) : stringslite_HasPrefix.f s p = some (decide (p.data.toList <+: s.data.toList)) := by
  unfold stringslite_HasPrefix.f
  by_cases h : (s.size : Int) ≥ (p.size : Int)
  · rw [if_pos h, if_pos (by omega), if_pos (by omega)]
    congr 1
    rw [ByteArray.toList_eq, ByteArray.toList_eq, Int.toNat_natCast, ext_list, List.drop_zero, Bool.eq_iff_iff]
    simp only [beq_iff_eq, decide_eq_true_eq]
    rw [List.prefix_iff_eq_take, size_list]
    exact eq_comm
  · rw [if_neg h]
    congr 1
    rw [eq_comm, decide_eq_false_iff_not]
    intro hp
    have := hp.length_le
    rw [size_list, size_list] at this
    omega
theorem cutPrefix_yes (s p : ByteArray) (h : p.data.toList <+: s.data.toList) : strings_CutPrefix.f s p = some (toB (s.data.toList.drop p.size), true) := by
  have hle := h.length_le
  rw [size_list, size_list] at hle
  unfold strings_CutPrefix.f stringslite_CutPrefix.f
  rw [hasPrefix_lite, decide_eq_true h, Option.bind_some, if_pos rfl, if_pos (by omega), if_pos (by omega), Option.bind_some]
  simp only [Int.toNat_natCast]
  congr 2
  apply ba_ext
  rw [ext_list, toB_list, List.take_of_length_le (by rw [size_list]; omega)]
theorem cutPrefix_no (s p : ByteArray) (h : ¬ p.data.toList <+: s.data.toList) : strings_CutPrefix.f s p = some (s, false) := by
  unfold strings_CutPrefix.f stringslite_CutPrefix.f
  rw [hasPrefix_lite, decide_eq_false h, Option.bind_some, if_neg (by decide), Option.bind_some]
end Go.Proofs.YteaiobgnhlpblaaDoor.Q
namespace Go.Proofs.YteaiobgnhlpblaaDoor.Q
open Go.RowKit Go.Proofs.YteaiobgnhlpblaaDoorW.PrintWords Go.Proofs.YteaiobgnhlpblaaDoorW.PrintLast Go.Proofs.YteaiobgnhlpblaaDoor.Pl
set_option linter.unusedVariables false
set_option linter.unusedSimpArgs false
theorem name_ne {n : List UInt8} (h : nameL n = true) : n ≠ [] := by
  intro e; rw [e] at h; exact absurd h (by decide)
def upto (ns : List (List UInt8)) : Nat → List ByteArray
  | 0 => [toB (pathL [])]
  | i + 1 => toB (pathL (ns.take (i + 1))) :: upto ns i
theorem map_list (ns : List (List UInt8)) : (ns.map toB).map (·.data.toList) = ns := by simp [List.map_map, Function.comp_def, toB_list]
theorem toB_app (a b : List UInt8) : toB a ++ toB b = toB (a ++ b) := by
  apply ba_ext
  rw [toB_list]
  simp [toB]
end Go.Proofs.YteaiobgnhlpblaaDoor.Q
namespace Go.Proofs.YteaiobgnhlpblaaDoor.Q
open Go.RowKit Go.Proofs.YteaiobgnhlpblaaDoorW.PrintWords Go.Proofs.YteaiobgnhlpblaaDoorW.PrintLast Go.Proofs.YteaiobgnhlpblaaDoor.Pl
set_option linter.unusedVariables false
set_option linter.unusedSimpArgs false
theorem stloop (l : List ByteArray) (hl : l.length ≤ 2000000) (d : Nat) : ∀ i : Nat, i + d = l.length → Ev (fun k => bursarlaw04_sameTexts.l0 k l l (i : Int)) true := by
  induction d with
  | zero =>
    intro i hi
    refine Ev.step (f := fun _ => some true) (fun k => ?_) (Ev.now _)
    simp only [bursarlaw04_sameTexts.l0]; rw [if_neg (by omega)]
  | succ d ih =>
    intro i hi
    refine Ev.step (fun k => ?_) (ih (i + 1) (by omega))
    simp only [bursarlaw04_sameTexts.l0]
    rw [if_pos (by omega), if_pos (by omega), if_pos (by omega), if_pos trivial, w64 i (by omega)]
theorem same_ev (l : List ByteArray) (hl : l.length ≤ 2000000) : Ev (fun k => bursarlaw04_sameTexts.f k l l) true :=
  Ev.congr (fun k => if_pos rfl) (stloop l hl l.length 0 (by omega))
end Go.Proofs.YteaiobgnhlpblaaDoor.Q
namespace Go.Proofs.YteaiobgnhlpblaaDoor.Q
open Go.RowKit Go.Proofs.YteaiobgnhlpblaaDoorW.PrintWords Go.Proofs.YteaiobgnhlpblaaDoorW.PrintLast Go.Proofs.YteaiobgnhlpblaaDoor.Pl
set_option linter.unusedVariables false
set_option linter.unusedSimpArgs false
theorem fixed_ev : Ev (fun k => bursarlaw04_fixed.f k) true := Ev.of (fun k => bursarlaw04_fixed.mono k) (k := 60) (by decide +kernel)
end Go.Proofs.YteaiobgnhlpblaaDoor.Q
namespace Go.Proofs.YteaiobgnhlpblaaDoor.Q
open Go.RowKit Go.Proofs.YteaiobgnhlpblaaDoorW.PrintWords Go.Proofs.YteaiobgnhlpblaaDoorW.PrintLast Go.Proofs.YteaiobgnhlpblaaDoor.Pl
set_option linter.unusedVariables false
set_option linter.unusedSimpArgs false
theorem rd45 (l : List S45) (i : Nat) (h : i < l.length) : rd_T45 l (i : Int) = l[i]'h := by simp [rd_T45, List.getD_eq_getElem?_getD, List.getElem?_eq_getElem h]
inductive Good : S45 → Prop
  | has (key : List UInt8) (hk : nameL key = true) : Good ⟨toB key, 2, []⟩
  | hasNot (key : List UInt8) (hk : nameL key = true) : Good ⟨toB key, 3, []⟩
  | one (key : List UInt8) (hk : nameL key = true) (how : Int) (hh : how = 0 ∨ how = 1) (v : List UInt8) (hv : nameL v = true ∨ v = []) : Good ⟨toB key, how, [v].map toB⟩
  | many (key : List UInt8) (hk : nameL key = true) (how : Int) (hh : how = 0 ∨ how = 1) (v : List UInt8) (mid : List (List UInt8)) (z : List UInt8) (hv : (v :: (mid ++ [z])).all nameL = true) (hl : mid.length ≤ 6) : Good ⟨toB key, how, (v :: (mid ++ [z])).map toB⟩
theorem good_of (t : S45) (h : propB t = true) : Good t := by
  obtain ⟨key, how, vs⟩ := t
  unfold propB properB at h
  rw [Bool.and_eq_true] at h
  obtain ⟨hk, h⟩ := h
  have hk' : nameL key.data.toList = true := by unfold nameL; rw [toB_of]; exact hk
  simp only at h
  by_cases h2 : how = 2 ∨ how = 3
  · rw [if_pos h2, decide_eq_true_iff, List.length_eq_zero_iff] at h
    subst h
    rcases h2 with rfl | rfl
    · have := Good.has _ hk'; rwa [toB_of] at this
    · have := Good.hasNot _ hk'; rwa [toB_of] at this
  · rw [if_neg h2] at h
    by_cases h0 : how = 0 ∨ how = 1
    · rw [if_pos h0, Bool.and_eq_true, Bool.and_eq_true, decide_eq_true_iff, decide_eq_true_iff] at h
      obtain ⟨⟨h1, h8⟩, hv⟩ := h
      have hall : ∀ j, j < vs.length → vokB vs j = true := fun j hj => by
        unfold valsB at hv; rw [List.all_eq_true] at hv; exact hv j (by simpa using hj)
      by_cases hone : vs.length = 1
      · obtain ⟨v, rfl⟩ := List.length_eq_one_iff.1 hone
        have h0' := hall 0 (by simp)
        unfold vokB at h0'
        rw [Bool.and_eq_true, Bool.or_eq_true, Bool.and_eq_true, decide_eq_true_iff] at h0'
        have hv' : nameL v.data.toList = true ∨ v.data.toList = [] := by
          rcases h0'.1 with hn | hn
          · left; unfold nameL; rw [toB_of]; exact hn
          · right
            have : v = ByteArray.empty := hn.1
            rw [this]; rfl
        have := Good.one _ hk' how h0 _ hv'
        simpa [toB_of] using this
      · have hn : ∀ x ∈ vs, nameB x = true := by
          intro x hx
          obtain ⟨j, hj, rfl⟩ := List.getElem_of_mem hx
          have h0' := hall j hj
          unfold vokB at h0'
          rw [rd_at vs j hj, Bool.and_eq_true, Bool.or_eq_true, Bool.and_eq_true, decide_eq_true_iff, decide_eq_true_iff] at h0'
          rcases h0'.1 with hn | hn
          · exact hn
          · omega
        cases vs with
        | nil => simp at h1
        | cons v r =>
          rcases List.eq_nil_or_concat r with rfl | ⟨mid, z, rfl⟩
          · simp at hone
          · rw [List.concat_eq_append] at *
            have hm : ((v.data.toList) :: (mid.map (·.data.toList) ++ [z.data.toList])).all nameL = true := by
              rw [List.all_eq_true]
              intro x hx
              have : x ∈ (v :: (mid ++ [z])).map (·.data.toList) := by simpa using hx
              obtain ⟨y, hy, rfl⟩ := List.mem_map.1 this
              unfold nameL
              rw [toB_of]
              exact hn y hy
            have := Good.many _ hk' how h0 _ (mid.map (·.data.toList)) _ hm (by simp at h8; simpa using h8)
            have e : ((v.data.toList) :: (mid.map (·.data.toList) ++ [z.data.toList])).map toB = v :: (mid ++ [z]) := by
              have := map_toB (v :: (mid ++ [z]))
              simpa using this
            rwa [e, toB_of] at this
    · rw [if_neg h0] at h
      cases h
def wL (key : List UInt8) (how : Int) (vs : List (List UInt8)) : List UInt8 :=
  if how = 2 then key else if how = 3 then 33 :: key else if vs.length = 1 then key ++ ((if how = 0 then [61] else [33, 61]) ++ vs.headD [])
  else key ++ ((if how = 1 then [32, 110, 111, 116, 105, 110, 32, 40] else [32, 105, 110, 32, 40]) ++ (Lib.join vs [32] ++ [41]))
def wS (t : S45) : List UInt8 := wL t.f0.data.toList t.f1 (t.f2.map (·.data.toList))
theorem wS_mk (key : List UInt8) (how : Int) (vs : List (List UInt8)) : wS ⟨toB key, how, vs.map toB⟩ = wL key how vs := by unfold wS; simp only [map_list, toB_list]
theorem join_len (vs : List (List UInt8)) (sep : List UInt8) : (Lib.join vs sep).length ≤ (vs.map List.length).sum + vs.length * sep.length := by
  cases vs with
  | nil => simp [Lib.join_nil]
  | cons v r =>
    rw [Lib.join_cons]
    have : ∀ r : List (List UInt8), (Lib.joinTail sep r).length = (r.map List.length).sum + r.length * sep.length := by
      intro r
      induction r with
      | nil => simp [Lib.joinTail]
      | cons y r ih =>
        unfold Lib.joinTail at ih ⊢
        simp only [List.map_cons, List.flatten_cons, List.length_append, ih, List.sum_cons, List.length_cons, Nat.add_mul]
        omega
    rw [List.length_append, this, List.map_cons, List.sum_cons, List.length_cons, Nat.add_mul]
    omega
theorem names_sum : ∀ vs : List (List UInt8), vs.all nameL = true → (vs.map List.length).sum ≤ 32 * vs.length
  | [], _ => by simp
  | v :: vs, h => by
    rw [List.all_cons, Bool.and_eq_true] at h
    have := names_sum vs h.2
    have hs := (name_size h.1).2
    rw [toB_size] at hs
    simp
    omega
theorem name_len {l : List UInt8} (h : nameL l = true) : 1 ≤ l.length ∧ l.length ≤ 32 := by
  have := name_size h
  rwa [toB_size] at this
theorem wS_len {t : S45} (h : Good t) : 1 ≤ (wS t).length ∧ (wS t).length ≤ 400 := by
  cases h with
  | has key hk => have := name_len hk; rw [show (⟨toB key, 2, []⟩ : S45) = ⟨toB key, 2, [].map toB⟩ from rfl, wS_mk]; simp [wL]; omega
  | hasNot key hk => have := name_len hk; rw [show (⟨toB key, 3, []⟩ : S45) = ⟨toB key, 3, [].map toB⟩ from rfl, wS_mk]; simp [wL]; omega
  | one key hk how hh v hv =>
    have := name_len hk
    have hv' : v.length ≤ 32 := by
      rcases hv with h | h
      · exact (name_len h).2
      · simp [h]
    rw [wS_mk]
    rcases hh with rfl | rfl <;> simp [wL] <;> omega
  | many key hk how hh v mid z hv hl =>
    have := name_len hk
    have hj := join_len (v :: (mid ++ [z])) [32]
    have hs := names_sum _ hv
    simp at hs hj
    rw [wS_mk]
    rcases hh with rfl | rfl <;> simp [wL] <;> omega
theorem joinB_toB (vs : List (List UInt8)) (sep : List UInt8) : joinB (vs.map toB) (toB sep) = toB (Lib.join vs sep) := by
  unfold joinB
  rw [map_list, toB_list]; rfl
theorem sjoin_some (vs : List (List UInt8)) (sep : List UInt8) (h1 : vs.length ≤ 1000) (h2 : (vs.map List.length).sum ≤ 1000000) (h3 : sep.length ≤ 10) : strings_Join.f (vs.map toB) (toB sep) = some (toB (Lib.join vs sep)) := by
  unfold strings_Join.f
  have := join_len vs sep
  have : vs.length * sep.length ≤ 1000 * 10 := Nat.mul_le_mul h1 h3
  rw [if_pos ⟨by simp; omega, by rw [joinB_toB, toB_size]; omega⟩, joinB_toB]
set_option maxHeartbeats 2000000 in
theorem printed_ev (t : S45) (h : Good t) : Ev (fun k => label_printed.f k t.f0 t.f1 t.f2) (toB (wS t)) := by
  cases h with
  | has key hk =>
    rw [show (⟨toB key, 2, []⟩ : S45) = ⟨toB key, 2, [].map toB⟩ from rfl, wS_mk]
    dsimp only
    exact Ev.congr (fun k => by unfold label_printed.f; rw [if_pos rfl]; rfl) (Ev.now _)
  | hasNot key hk =>
    have := name_len hk
    rw [show (⟨toB key, 3, []⟩ : S45) = ⟨toB key, 3, [].map toB⟩ from rfl, wS_mk]
    dsimp only
    exact Ev.congr (f := fun _ => some (toB (33 :: key))) (fun k => by unfold label_printed.f; rw [if_neg (by decide), if_pos rfl, if_pos (by rw [toB_size]; omega), show (⟨#[33]⟩ : ByteArray) = toB [33] from rfl, toB_app]; rfl) (Ev.now _)
  | one key hk how hh v hv =>
    have := name_len hk
    have hv' : v.length ≤ 32 := by
      rcases hv with h | h
      · exact (name_len h).2
      · simp [h]
    rw [wS_mk]
    dsimp only
    have e0 : rdOf ByteArray.empty (List.map toB [v]) 0 = toB v := rfl
    rcases hh with rfl | rfl
    · refine Ev.congr (f := fun k => label_printed.j0 k false true (toB key) 0 (List.map toB [v])) (fun k => by unfold label_printed.f; rw [if_neg (by decide), if_neg (by decide), if_pos rfl]; rfl) ?_
      refine Ev.step (f := fun _ => some (toB (key ++ 61 :: v))) (fun k => ?_) (Ev.now _)
      simp only [label_printed.j0]
      rw [if_pos trivial, if_pos (by rw [toB_size]; omega), if_pos (by simp), e0, show (⟨#[61]⟩ : ByteArray) = toB [61] from rfl, toB_app, if_pos (by rw [toB_size, toB_size]; simp; omega), toB_app]
      simp
    · refine Ev.congr (f := fun k => label_printed.j0 k false false (toB key) 1 (List.map toB [v])) (fun k => by unfold label_printed.f; rw [if_neg (by decide), if_neg (by decide), if_neg (by decide)]; rfl) ?_
      refine Ev.step (f := fun k => label_printed.j1 k true (toB key) 1 (List.map toB [v])) (fun k => by simp only [label_printed.j0]; rw [if_neg (by decide), if_pos trivial]; rfl) ?_
      refine Ev.step (f := fun _ => some (toB (key ++ 33 :: 61 :: v))) (fun k => ?_) (Ev.now _)
      simp only [label_printed.j1]
      rw [if_pos trivial, if_pos (by rw [toB_size]; omega), if_pos (by simp), e0, show (⟨#[33, 61]⟩ : ByteArray) = toB [33, 61] from rfl, toB_app, if_pos (by rw [toB_size, toB_size]; simp; omega), toB_app]
      simp
  | many key hk how hh v mid z hv hl =>
    have := name_len hk
    have hs := names_sum _ hv
    have hj := join_len (v :: (mid ++ [z])) [32]
    have hsj := sjoin_some (v :: (mid ++ [z])) [32] (by simp; omega) (by simp at hs ⊢; omega) (by decide)
    have hne : ¬ (v :: (mid ++ [z])).length = 1 := by simp
    have hm : decide (((List.map toB (v :: (mid ++ [z]))).length : Int) > 1) = true := decide_eq_true (by simp; omega)
    rw [wS_mk]
    dsimp only
    generalize hvs : v :: (mid ++ [z]) = vs at *
    have hl8 : (Lib.join vs [32]).length ≤ 272 := by
      have : vs.length = mid.length + 2 := by rw [← hvs]; simp
      simp at hj
      omega
    rcases hh with rfl | rfl
    · have e : wL key 0 vs = key ++ ([32, 105, 110, 32, 40] ++ (Lib.join vs [32] ++ [41])) := by unfold wL; rw [if_neg (by decide), if_neg (by decide), if_neg hne, if_neg (by decide)]
      rw [e]
      refine Ev.congr (f := fun k => label_printed.j0 k true false (toB key) 0 (List.map toB vs)) (fun k => by unfold label_printed.f; rw [if_neg (by decide), if_neg (by decide), if_pos rfl, hm]; rfl) ?_
      refine Ev.step (f := fun k => label_printed.j1 k false (toB key) 0 (List.map toB vs)) (fun k => by simp only [label_printed.j0]; rw [if_neg (by decide), if_neg (by decide)]) ?_
      refine Ev.step (f := fun _ => some (toB (key ++ ([32, 105, 110, 32, 40] ++ (Lib.join vs [32] ++ [41]))))) (fun k => ?_) (Ev.now _)
      simp only [label_printed.j1]
      rw [if_neg (by decide), if_neg (by decide), if_pos (by rw [toB_size]; omega), show (⟨#[32]⟩ : ByteArray) = toB [32] from rfl, hsj, Option.bind_some, show (⟨#[32, 105, 110, 32, 40]⟩ : ByteArray) = toB [32, 105, 110, 32, 40] from rfl, toB_app, if_pos (by rw [toB_size, toB_size]; simp; omega), toB_app, if_pos (by rw [toB_size]; simp; omega), show (⟨#[41]⟩ : ByteArray) = toB [41] from rfl, toB_app]
      simp
    · have e : wL key 1 vs = key ++ ([32, 110, 111, 116, 105, 110, 32, 40] ++ (Lib.join vs [32] ++ [41])) := by unfold wL; rw [if_neg (by decide), if_neg (by decide), if_neg hne, if_pos rfl]
      rw [e]
      refine Ev.congr (f := fun k => label_printed.j0 k true false (toB key) 1 (List.map toB vs)) (fun k => by unfold label_printed.f; rw [if_neg (by decide), if_neg (by decide), if_neg (by decide), hm]) ?_
      refine Ev.step (f := fun k => label_printed.j1 k false (toB key) 1 (List.map toB vs)) (fun k => by simp only [label_printed.j0]; rw [if_neg (by decide), if_pos trivial]; rfl) ?_
      refine Ev.step (f := fun _ => some (toB (key ++ ([32, 110, 111, 116, 105, 110, 32, 40] ++ (Lib.join vs [32] ++ [41]))))) (fun k => ?_) (Ev.now _)
      simp only [label_printed.j1]
      rw [if_neg (by decide), if_pos trivial, if_pos (by rw [toB_size]; omega), show (⟨#[32]⟩ : ByteArray) = toB [32] from rfl, hsj, Option.bind_some, show (⟨#[32, 110, 111, 116, 105, 110, 32, 40]⟩ : ByteArray) = toB [32, 110, 111, 116, 105, 110, 32, 40] from rfl, toB_app, if_pos (by rw [toB_size, toB_size]; simp; omega), toB_app, if_pos (by rw [toB_size]; simp; omega), show (⟨#[41]⟩ : ByteArray) = toB [41] from rfl, toB_app]
      simp
end Go.Proofs.YteaiobgnhlpblaaDoor.Q
namespace Go.Proofs.YteaiobgnhlpblaaDoor.Q
open Go.RowKit Go.Proofs.YteaiobgnhlpblaaDoorW.PrintWords Go.Proofs.YteaiobgnhlpblaaDoorW.PrintLast Go.Proofs.YteaiobgnhlpblaaDoor.Pl
set_option linter.unusedVariables false
set_option linter.unusedSimpArgs false
def allB (l : List S45) : Bool := decide (l.length ≤ 8) && l.all propB
def pL (l : List S45) : List UInt8 := Lib.join (l.map wS) [44]
def printS (l : List S45) : ByteArray × Int := if allB l = true then (toB (pL l), 0) else (⟨#[]⟩, 43)
theorem allB_good {l : List S45} (h : allB l = true) : l.length ≤ 8 ∧ ∀ t ∈ l, Good t := by
  unfold allB at h
  rw [Bool.and_eq_true, decide_eq_true_iff, List.all_eq_true] at h
  exact ⟨h.1, fun t ht => good_of t (h.2 t ht)⟩
theorem ws_sum : ∀ l : List S45, (∀ t ∈ l, Good t) → ((l.map wS).map List.length).sum ≤ 400 * l.length
  | [], _ => by simp
  | t :: l, h => by
    have := ws_sum l (fun x hx => h x (by simp [hx]))
    have ht := (wS_len (h t (by simp))).2
    simp only [List.map_cons, List.sum_cons, List.length_cons]
    omega
theorem lp_loop (l : List S45) (h8 : l.length ≤ 8) (hg : ∀ t ∈ l, Good t) (d : Nat) : ∀ i : Nat, i + d = l.length →
    Ev (fun k => label_Print.l0 k (((l.take i).map wS).map toB) l (l.length : Int) (i : Int)) (toB (pL l), 0) := by
  induction d with
  | zero =>
    intro i hi
    have hi' : i = l.length := by omega
    subst hi'
    rw [List.take_length]
    have hs := ws_sum l hg
    refine Ev.step (f := fun _ => some (toB (pL l), 0)) (fun k => ?_) (Ev.now _)
    simp only [label_Print.l0]
    rw [if_neg (by omega), show (⟨#[44]⟩ : ByteArray) = toB [44] from rfl, sjoin_some _ _ (by simp; omega) (by omega) (by decide)]
    rfl
  | succ d ih =>
    intro i hi
    have hlt : i < l.length := by omega
    have hih := ih (i + 1) (by omega)
    have e : ((l.take (i + 1)).map wS).map toB = ((l.take i).map wS).map toB ++ [toB (wS l[i])] := by rw [List.take_succ_eq_append_getElem hlt, List.map_append, List.map_append]; rfl
    rw [e] at hih
    refine Ev.step (f := fun k => (label_printed.f k l[i].f0 l[i].f1 l[i].f2).bind fun t235 => if (((l.take i).map wS).map toB).length < 8796093022208 then label_Print.l0 k ((((l.take i).map wS).map toB) ++ [t235]) l (l.length : Int) ((i + 1 : Nat) : Int) else none) (fun k => ?_) ?_
    · simp only [label_Print.l0]
      rw [if_pos (by omega), if_pos (by omega), if_pos (by omega), rd45 l i hlt, w64 i (by omega)]
    · refine Ev.bind (printed_ev _ (hg _ (List.getElem_mem _))) ?_
      exact Ev.congr (fun k => if_pos (by simp; omega)) hih
theorem print_ev (l : List S45) : Ev (fun k => label_Print.f k l) (printS l) := by
  refine Ev.congr (fun k => rfl) (Ev.bind (a := allB l) (Ev.now _) (f := fun k t232 => if t232 = true then (label_Print.l0 k ([] : List ByteArray) l (l.length : Int) 0) else (some ((⟨#[]⟩ : ByteArray), 43))) ?_)
  unfold printS
  by_cases h : allB l = true
  · rw [if_pos h]
    obtain ⟨h8, hg⟩ := allB_good h
    exact Ev.congr (fun k => if_pos h) (lp_loop l h8 hg l.length 0 (by omega))
  · rw [if_neg h]
    exact Ev.congr (fun k => if_neg h) (Ev.now _)
end Go.Proofs.YteaiobgnhlpblaaDoor.Q
namespace Go.Proofs.YteaiobgnhlpblaaDoor.Q
open Go.RowKit Go.Proofs.YteaiobgnhlpblaaDoorW.PrintWords Go.Proofs.YteaiobgnhlpblaaDoorW.PrintLast Go.Proofs.YteaiobgnhlpblaaDoor.Pl
set_option linter.unusedVariables false
set_option linter.unusedSimpArgs false
theorem name_not {l : List UInt8} (h : nameL l = true) (c : UInt8) (hc : okByte c = false) : c ∉ l := by
  intro hm
  unfold nameL nameB at h
  simp only [Bool.and_eq_true, List.all_eq_true] at h
  have := h.2 c (by simpa [toB_list] using hm)
  rw [hc] at this; cases this
theorem index_at (a b r : List UInt8) (c : UInt8) (h : c ∉ a) : Lib.index (a ++ (c :: r ++ b)) (c :: r) = (a.length : Int) := by
  refine Lib.index_first (by simp) ?_ ?_
  · unfold Lib.occAt
    rw [List.drop_left, List.isPrefixOf_iff_prefix]
    exact List.prefix_append _ _
  · intro j hj
    unfold Lib.occAt
    rw [List.drop_append_of_le_length (by omega), List.drop_eq_getElem_cons hj]
    have : a[j] ≠ c := fun e => h (e ▸ List.getElem_mem hj)
    show ((c == a[j]) && _) = false
    rw [beq_eq_false_iff_ne.2 (Ne.symm this)]; rfl
theorem index_no (s r : List UInt8) (c : UInt8) (h : c ∉ s) : Lib.index s (c :: r) = -1 := by
  refine Lib.index_none (fun j hj => ?_)
  unfold Lib.occAt
  rcases Nat.lt_or_ge j s.length with h1 | h1
  · rw [List.drop_eq_getElem_cons h1]
    have : s[j] ≠ c := fun e => h (e ▸ List.getElem_mem h1)
    show ((c == s[j]) && _) = false
    rw [beq_eq_false_iff_ne.2 (Ne.symm this)]; rfl
  · rw [List.drop_of_length_le h1]; rfl
theorem scut_yes (a b r : List UInt8) (c : UInt8) (h : c ∉ a) (hs : (a ++ (c :: r ++ b)).length ≤ 4000000000) : strings_Cut.f (toB (a ++ (c :: r ++ b))) (toB (c :: r)) = some (toB a, toB b, true) := by
  have hc : Lib.cut (a ++ (c :: r ++ b)) (c :: r) = (a, b, true) := by
    unfold Lib.cut
    rw [index_at a b r c h, if_pos (by omega), Int.toNat_natCast, List.take_left, ← List.drop_drop, List.drop_left, List.drop_left]
  unfold strings_Cut.f
  rw [if_pos (by rw [toB_size]; omega)]
  unfold cutA cutZ cutB
  rw [toB_list, toB_list, hc]
  rfl
theorem scut_no (s r : List UInt8) (c : UInt8) (h : c ∉ s) (hs : s.length ≤ 4000000000) : strings_Cut.f (toB s) (toB (c :: r)) = some (toB s, ⟨#[]⟩, false) := by
  have hc : Lib.cut s (c :: r) = (s, [], false) := by
    unfold Lib.cut
    rw [index_no s r c h, if_neg (by decide)]
  unfold strings_Cut.f
  rw [if_pos (by rw [toB_size]; omega)]
  unfold cutA cutZ cutB
  rw [toB_list, toB_list, hc]
  rfl
theorem scut_some (s p : ByteArray) (hs : s.size ≤ 4000000000) : ∃ a b c, strings_Cut.f s p = some (a, b, c) := ⟨_, _, _, by unfold strings_Cut.f; rw [if_pos (by omega)]⟩
theorem scutp_some (s p : ByteArray) : ∃ a b, strings_CutPrefix.f s p = some (a, b) ∧ a.size ≤ s.size := by
  by_cases h : p.data.toList <+: s.data.toList
  · exact ⟨_, _, cutPrefix_yes s p h, by rw [toB_size, List.length_drop, size_list]; omega⟩
  · exact ⟨_, _, cutPrefix_no s p h, Nat.le_refl _⟩
theorem ext_toB (l : List UInt8) (a b : Nat) : (toB l).extract a b = toB ((l.take b).drop a) := ba_ext (by rw [ext_list, toB_list, toB_list])
theorem sfx_some (s p : ByteArray) (hs : s.size ≤ 4000000000) (hp : p.size ≤ 4000000000) : ∃ a b, strings_CutSuffix.f s p = some (a, b) ∧ a.size ≤ s.size := by
  unfold strings_CutSuffix.f stringslite_CutSuffix.f stringslite_HasSuffix.f
  have hw : (s.size : Int) ≥ (p.size : Int) → wrap64 ((s.size : Int) - (p.size : Int)) = (s.size : Int) - (p.size : Int) := fun h => by unfold wrap64; omega
  by_cases h : (s.size : Int) ≥ (p.size : Int)
  · rw [if_pos h, hw h, if_pos (by omega), if_pos (by omega), Option.bind_some]
    by_cases h2 : ((s.extract ((s.size : Int) - (p.size : Int)).toNat s.size).toList == p.toList) = true
    · rw [if_pos h2, if_pos (by omega), if_pos (by omega)]
      exact ⟨_, _, rfl, by rw [← size_list, ← size_list, ext_list, List.length_drop, List.length_take]; omega⟩
    · rw [if_neg h2]
      exact ⟨_, _, rfl, Nat.le_refl _⟩
  · rw [if_neg h]
    exact ⟨_, _, rfl, Nat.le_refl _⟩
theorem sfx_yes (a p : List UInt8) (hs : (a ++ p).length ≤ 4000000000) : strings_CutSuffix.f (toB (a ++ p)) (toB p) = some (toB a, true) := by
  unfold strings_CutSuffix.f stringslite_CutSuffix.f stringslite_HasSuffix.f
  have hl : (a ++ p).length = a.length + p.length := List.length_append
  have hw : wrap64 (((toB (a ++ p)).size : Int) - ((toB p).size : Int)) = (a.length : Int) := by rw [toB_size, toB_size, hl]; unfold wrap64; omega
  have hx : (toB (a ++ p)).extract (a.length : Int).toNat (toB (a ++ p)).size = toB p := by
    rw [Int.toNat_natCast, ext_toB, toB_size, List.take_length, List.drop_left]
  have hy : (toB (a ++ p)).extract 0 (a.length : Int).toNat = toB a := by
    rw [Int.toNat_natCast, ext_toB, List.take_left, List.drop_zero]
  rw [hw, if_pos (by rw [toB_size, toB_size, hl]; omega), if_pos (by omega), if_pos (by rw [toB_size, hl]; omega), Option.bind_some, hx, if_pos (by simp), if_pos (by omega), if_pos (by rw [toB_size, hl]; omega), hy]
  rfl
theorem pcs_join (c : UInt8) (l : List (List UInt8)) (h0 : l ≠ []) (h : ∀ p ∈ l, c ∉ p) : pcs c (Lib.join l [c]) = l := by
  cases l with
  | nil => exact absurd rfl h0
  | cons n ns =>
    rw [Lib.join_cons]
    exact pcs_of_names c n ns h
theorem le_sum : ∀ (l : List Nat) (x : Nat), x ∈ l → x ≤ l.sum
  | [], _, h => by cases h
  | y :: l, x, h => by
    rw [List.sum_cons]
    rcases List.mem_cons.1 h with rfl | h
    · omega
    · have := le_sum l x h; omega
theorem pcs_le (c : UInt8) (l : List UInt8) : ∀ p ∈ pcs c l, p.length ≤ l.length := by
  intro p hp
  have hf := congrArg List.length (pcs_flat c l)
  rw [List.length_flatten, List.map_map] at hf
  have hm : p.length + 1 ∈ (pcs c l).map (List.length ∘ (c :: ·)) := List.mem_map.2 ⟨p, hp, by simp⟩
  have := le_sum _ _ hm
  simp only [List.length_cons] at hf
  omega
def tr (t : S45) : ByteArray × Int × List ByteArray := (t.f0, t.f1, t.f2)
theorem not_bang {l : List UInt8} (hk : nameL l = true) (r : List UInt8) : ¬ (toB [33]).data.toList <+: (toB (l ++ r)).data.toList := by
  rw [toB_list, toB_list]
  intro h
  cases l with
  | nil => exact name_ne hk rfl
  | cons x l =>
    rw [List.cons_append, List.cons_prefix_cons] at h
    exact name_not hk 33 (by decide) (by rw [h.1]; simp)
set_option maxHeartbeats 4000000 in
theorem term_again (t : S45) (h : Good t) : Ev (fun k => label_term.f k (toB (wS t))) (tr t) := by
  have hwl := wS_len h
  have e33 : (⟨#[33]⟩ : ByteArray) = toB [33] := rfl
  have e32 : (⟨#[32]⟩ : ByteArray) = toB [32] := rfl
  have e61 : (⟨#[61]⟩ : ByteArray) = toB [61] := rfl
  have e3361 : (⟨#[33, 61]⟩ : ByteArray) = toB [33, 61] := rfl
  cases h with
  | has key hk =>
    rw [show (⟨toB key, 2, []⟩ : S45) = ⟨toB key, 2, [].map toB⟩ from rfl, wS_mk] at hwl ⊢
    have e : wL key 2 [] = key := rfl
    rw [e] at hwl ⊢
    refine Ev.congr (f := fun _ => some (toB key, 2, [])) (fun k => ?_) (Ev.now _)
    unfold label_term.f
    have hb := not_bang hk []
    rw [List.append_nil] at hb
    rw [e33, cutPrefix_no _ _ hb, Option.bind_some, if_neg Bool.false_ne_true, e32, scut_no key [] 32 (name_not hk 32 (by decide)) (by omega), Option.bind_some, if_neg Bool.false_ne_true, e3361, scut_no key [61] 33 (name_not hk 33 (by decide)) (by omega), Option.bind_some, if_neg Bool.false_ne_true, e61, scut_no key [] 61 (name_not hk 61 (by decide)) (by omega), Option.bind_some, if_neg Bool.false_ne_true]
  | hasNot key hk =>
    rw [show (⟨toB key, 3, []⟩ : S45) = ⟨toB key, 3, [].map toB⟩ from rfl, wS_mk] at hwl ⊢
    have e : wL key 3 [] = 33 :: key := rfl
    rw [e] at hwl ⊢
    refine Ev.congr (f := fun _ => some (toB key, 3, [])) (fun k => ?_) (Ev.now _)
    unfold label_term.f
    rw [e33, cutPrefix_yes _ _ (by rw [toB_list, toB_list]; exact ⟨key, rfl⟩), Option.bind_some, if_pos rfl]
    rfl
  | one key hk how hh v hv =>
    have hv32 : ∀ c : UInt8, okByte c = false → c ∉ v := fun c hc => by
      rcases hv with h | h
      · exact name_not h c hc
      · rw [h]; simp
    rw [wS_mk] at hwl ⊢
    rcases hh with rfl | rfl
    · have e : wL key 0 [v] = key ++ (61 :: [] ++ v) := rfl
      rw [e] at hwl ⊢
      refine Ev.congr (f := fun _ => some (toB key, 0, [toB v])) (fun k => ?_) (Ev.now _)
      unfold label_term.f
      have n1 : (32 : UInt8) ∉ key ++ (61 :: [] ++ v) := by simp [name_not hk 32 (by decide), hv32 32 (by decide)]
      have n2 : (33 : UInt8) ∉ key ++ (61 :: [] ++ v) := by simp [name_not hk 33 (by decide), hv32 33 (by decide)]
      rw [e33, cutPrefix_no _ _ (not_bang hk _), Option.bind_some, if_neg Bool.false_ne_true, e32, scut_no _ [] 32 n1 (by omega), Option.bind_some, if_neg Bool.false_ne_true, e3361, scut_no _ [61] 33 n2 (by omega), Option.bind_some, if_neg Bool.false_ne_true, e61, scut_yes key v [] 61 (name_not hk 61 (by decide)) (by omega), Option.bind_some, if_pos rfl]
    · have e : wL key 1 [v] = key ++ (33 :: [61] ++ v) := rfl
      rw [e] at hwl ⊢
      refine Ev.congr (f := fun _ => some (toB key, 1, [toB v])) (fun k => ?_) (Ev.now _)
      unfold label_term.f
      have n1 : (32 : UInt8) ∉ key ++ (33 :: [61] ++ v) := by simp [name_not hk 32 (by decide), hv32 32 (by decide)]
      rw [e33, cutPrefix_no _ _ (not_bang hk _), Option.bind_some, if_neg Bool.false_ne_true, e32, scut_no _ [] 32 n1 (by omega), Option.bind_some, if_neg Bool.false_ne_true, e3361, scut_yes key v [61] 33 (name_not hk 33 (by decide)) (by omega), Option.bind_some, if_pos rfl]
  | many key hk how hh v mid z hv hl =>
    have hne : ¬ (v :: (mid ++ [z])).length = 1 := by simp
    have hne0 : v :: (mid ++ [z]) ≠ [] := by simp
    have hfree : ∀ p ∈ v :: (mid ++ [z]), (32 : UInt8) ∉ p := fun p hp => name_not (List.all_eq_true.1 hv p hp) 32 (by decide)
    rw [wS_mk] at hwl ⊢
    generalize hvs : v :: (mid ++ [z]) = vs at *
    have hpj := pcs_join 32 vs hne0 hfree
    have hj0 : ∀ how, Lib.join vs [32] ++ [41] ≠ [] → (Lib.join vs [32] ++ [41]).length ≤ 400 → Ev (fun k => label_term.j0 k (toB key) how (toB (Lib.join vs [32] ++ [41])) true) (toB key, how, vs.map toB) := by
      intro how _ hlen
      refine Ev.step (f := fun _ => some (toB key, how, vs.map toB)) (fun k => ?_) (Ev.now _)
      simp only [label_term.j0]
      rw [show (⟨#[41]⟩ : ByteArray) = toB [41] from rfl, sfx_yes _ _ (by omega), Option.bind_some, if_pos trivial, if_pos rfl, e32]
      have : strings_Split.f (toB (Lib.join vs [32])) (toB [32]) = some (vs.map toB) := by
        have := split_some (toB (Lib.join vs [32])) 32 (by rw [toB_size]; simp at hlen; omega)
        rw [toB_list, hpj] at this
        exact this
      rw [this, Option.bind_some]
    rcases hh with rfl | rfl
    · have e : wL key 0 vs = key ++ (32 :: [] ++ ([105, 110, 32, 40] ++ (Lib.join vs [32] ++ [41]))) := by unfold wL; rw [if_neg (by decide), if_neg (by decide), if_neg hne, if_neg (by decide)]; rfl
      rw [e] at hwl ⊢
      have hlen : (Lib.join vs [32] ++ [41]).length ≤ 400 := by simp at hwl ⊢; omega
      refine Ev.congr (fun k => ?_) (hj0 0 (by simp) hlen)
      unfold label_term.f
      rw [e33, cutPrefix_no _ _ (not_bang hk _), Option.bind_some, if_neg Bool.false_ne_true, e32, scut_yes key _ [] 32 (name_not hk 32 (by decide)) (by omega), Option.bind_some, if_pos rfl, show (⟨#[105, 110, 32, 40]⟩ : ByteArray) = toB [105, 110, 32, 40] from rfl]
      dsimp only
      rw [cutPrefix_yes _ _ (by rw [toB_list, toB_list]; exact List.prefix_append _ _), Option.bind_some, if_pos rfl]
      rfl
    · have e : wL key 1 vs = key ++ (32 :: [] ++ ([110, 111, 116, 105, 110, 32, 40] ++ (Lib.join vs [32] ++ [41]))) := by unfold wL; rw [if_neg (by decide), if_neg (by decide), if_neg hne, if_pos rfl]; rfl
      rw [e] at hwl ⊢
      have hlen : (Lib.join vs [32] ++ [41]).length ≤ 400 := by simp at hwl ⊢; omega
      refine Ev.congr (fun k => ?_) (hj0 1 (by simp) hlen)
      unfold label_term.f
      rw [e33, cutPrefix_no _ _ (not_bang hk _), Option.bind_some, if_neg Bool.false_ne_true, e32, scut_yes key _ [] 32 (name_not hk 32 (by decide)) (by omega), Option.bind_some, if_pos rfl, show (⟨#[105, 110, 32, 40]⟩ : ByteArray) = toB [105, 110, 32, 40] from rfl, show (⟨#[110, 111, 116, 105, 110, 32, 40]⟩ : ByteArray) = toB [110, 111, 116, 105, 110, 32, 40] from rfl]
      dsimp only
      rw [cutPrefix_no _ _ (by rw [toB_list, toB_list]; simp [List.cons_prefix_cons]), Option.bind_some, if_neg Bool.false_ne_true, cutPrefix_yes _ _ (by rw [toB_list, toB_list]; exact List.prefix_append _ _), Option.bind_some]
      rfl
theorem term_total (s : ByteArray) (hs : s.size ≤ 1048576) : ∃ r, Ev (fun k => label_term.f k s) r := by
  have hj0 : ∀ a how (x : ByteArray) b, x.size ≤ 4000000 → ∃ r, Ev (fun k => label_term.j0 k a how x b) r := by
    intro a how x b hx
    obtain ⟨l, e, hl, hle⟩ := sfx_some x (⟨#[41]⟩ : ByteArray) (by omega) (by decide)
    have hsp := split_some l 32 (by omega)
    cases b with
    | false => exact ⟨_, Ev.step (f := fun _ => some ((⟨#[]⟩ : ByteArray), 0, ([] : List ByteArray))) (fun k => by simp only [label_term.j0]; rw [hl, Option.bind_some, if_neg Bool.false_ne_true]) (Ev.now _)⟩
    | true =>
      cases e with
      | false => exact ⟨_, Ev.step (f := fun _ => some ((⟨#[]⟩ : ByteArray), 0, ([] : List ByteArray))) (fun k => by simp only [label_term.j0]; rw [hl, Option.bind_some, if_pos trivial, if_neg Bool.false_ne_true]) (Ev.now _)⟩
      | true => exact ⟨_, Ev.step (fun k => by simp only [label_term.j0]; rw [hl, Option.bind_some, if_pos trivial, if_pos rfl, hsp, Option.bind_some]) (Ev.now _)⟩
  obtain ⟨p, b, hp, _⟩ := scutp_some s (⟨#[33]⟩ : ByteArray)
  cases b with
  | true => exact ⟨_, Ev.congr (fun k => by unfold label_term.f; rw [hp, Option.bind_some, if_pos rfl]) (Ev.now _)⟩
  | false =>
    have hc1 : strings_Cut.f s (⟨#[32]⟩ : ByteArray) = some (cutA s ⟨#[32]⟩, cutZ s ⟨#[32]⟩, cutB s ⟨#[32]⟩) := by unfold strings_Cut.f; rw [if_pos (by omega)]
    have hz : (cutZ s ⟨#[32]⟩).size ≤ s.size := by
      rw [show (cutZ s ⟨#[32]⟩).size = (Lib.cut s.data.toList [32]).2.1.length from toB_size _, ← size_list s]
      unfold Lib.cut
      split
      · show (s.data.toList.drop _).length ≤ _
        rw [List.length_drop]; omega
      · exact Nat.zero_le _
    cases hb1 : cutB s ⟨#[32]⟩ with
    | true =>
      rw [hb1] at hc1
      obtain ⟨x, b2, h2, hx⟩ := scutp_some (cutZ s ⟨#[32]⟩) (⟨#[105, 110, 32, 40]⟩ : ByteArray)
      cases b2 with
      | true =>
        obtain ⟨r, hr⟩ := hj0 (cutA s ⟨#[32]⟩) 0 x true (by omega)
        exact ⟨r, Ev.congr (fun k => by unfold label_term.f; rw [hp, Option.bind_some, if_neg Bool.false_ne_true, hc1, Option.bind_some, if_pos rfl, h2, Option.bind_some, if_pos rfl]) hr⟩
      | false =>
        obtain ⟨y, b3, h3, hy⟩ := scutp_some (cutZ s ⟨#[32]⟩) (⟨#[110, 111, 116, 105, 110, 32, 40]⟩ : ByteArray)
        obtain ⟨r, hr⟩ := hj0 (cutA s ⟨#[32]⟩) 1 y b3 (by omega)
        exact ⟨r, Ev.congr (fun k => by unfold label_term.f; rw [hp, Option.bind_some, if_neg Bool.false_ne_true, hc1, Option.bind_some, if_pos rfl, h2, Option.bind_some, if_neg Bool.false_ne_true, h3, Option.bind_some]) hr⟩
    | false =>
      rw [hb1] at hc1
      obtain ⟨a2, z2, b2, h2⟩ := scut_some s (⟨#[33, 61]⟩ : ByteArray) (by omega)
      obtain ⟨a3, z3, b3, h3⟩ := scut_some s (⟨#[61]⟩ : ByteArray) (by omega)
      cases b2 with
      | true => exact ⟨_, Ev.congr (fun k => by unfold label_term.f; rw [hp, Option.bind_some, if_neg Bool.false_ne_true, hc1, Option.bind_some, if_neg Bool.false_ne_true, h2, Option.bind_some, if_pos rfl]) (Ev.now _)⟩
      | false =>
        cases b3 with
        | true => exact ⟨_, Ev.congr (fun k => by unfold label_term.f; rw [hp, Option.bind_some, if_neg Bool.false_ne_true, hc1, Option.bind_some, if_neg Bool.false_ne_true, h2, Option.bind_some, if_neg Bool.false_ne_true, h3, Option.bind_some, if_pos rfl]) (Ev.now _)⟩
        | false => exact ⟨_, Ev.congr (fun k => by unfold label_term.f; rw [hp, Option.bind_some, if_neg Bool.false_ne_true, hc1, Option.bind_some, if_neg Bool.false_ne_true, h2, Option.bind_some, if_neg Bool.false_ne_true, h3, Option.bind_some, if_neg Bool.false_ne_true]) (Ev.now _)⟩
end Go.Proofs.YteaiobgnhlpblaaDoor.Q
namespace Go.Proofs.YteaiobgnhlpblaaDoor.Q
open Go.RowKit Go.Proofs.YteaiobgnhlpblaaDoorW.PrintWords Go.Proofs.YteaiobgnhlpblaaDoorW.PrintLast Go.Proofs.YteaiobgnhlpblaaDoor.Pl
set_option linter.unusedVariables false
set_option linter.unusedSimpArgs false
theorem wS_free {t : S45} (h : Good t) : (44 : UInt8) ∉ wS t := by
  have hf : ∀ l : List UInt8, nameL l = true → (44 : UInt8) ∉ l := fun l hl => name_not hl 44 (by decide)
  cases h with
  | has key hk =>
    rw [show (⟨toB key, 2, []⟩ : S45) = ⟨toB key, 2, [].map toB⟩ from rfl, wS_mk]
    exact hf key hk
  | hasNot key hk =>
    rw [show (⟨toB key, 3, []⟩ : S45) = ⟨toB key, 3, [].map toB⟩ from rfl, wS_mk]
    show (44 : UInt8) ∉ 33 :: key
    simp [hf key hk]
  | one key hk how hh v hv =>
    have hv' : (44 : UInt8) ∉ v := by
      rcases hv with h | h
      · exact hf v h
      · simp [h]
    rw [wS_mk]
    rcases hh with rfl | rfl
    · show (44 : UInt8) ∉ key ++ 61 :: v
      simp [hf key hk, hv']
    · show (44 : UInt8) ∉ key ++ 33 :: 61 :: v
      simp [hf key hk, hv']
  | many key hk how hh v mid z hv hl =>
    have hne : ¬ (v :: (mid ++ [z])).length = 1 := by simp
    have hj : (44 : UInt8) ∉ Lib.join (v :: (mid ++ [z])) [32] := by
      rw [Lib.join_cons]
      simp only [List.mem_append, not_or, Lib.joinTail, List.mem_flatten, List.mem_map]
      refine ⟨hf v (List.all_eq_true.1 hv v (by simp)), ?_⟩
      rintro ⟨x, ⟨y, hy, rfl⟩, hx⟩
      have hyn := hf y (List.all_eq_true.1 hv y (by simp at hy ⊢; exact .inr hy))
      simp at hx
      exact hyn hx
    rw [wS_mk]
    rcases hh with rfl | rfl
    · unfold wL; rw [if_neg (by decide), if_neg (by decide), if_neg hne, if_neg (by decide)]
      simp only [List.mem_append, not_or]
      exact ⟨hf key hk, by decide, hj, by decide⟩
    · unfold wL; rw [if_neg (by decide), if_neg (by decide), if_neg hne, if_pos rfl]
      simp only [List.mem_append, not_or]
      exact ⟨hf key hk, by decide, hj, by decide⟩
def parR (text : ByteArray) (ts : List S45) : List S45 × Int := if allB ts = true ∧ toB (pL ts) = text then (ts, 0) else ([], 43)
theorem par_end (text : ByteArray) (ts : List S45) (g : Nat → Option (ByteArray × Int)) (hg : Ev g (printS ts)) :
    Ev (fun k => (g k).bind fun bt159 => (if bt159.2 = 0 then (if bt159.1.toList = text.toList then (some (ts, 0)) else (some (([] : List (S45)), (43 : Int)))) else (some (([] : List (S45)), 43)))) (parR text ts) := by
  by_cases h : allB ts = true
  · have hp : printS ts = (toB (pL ts), 0) := by unfold printS; rw [if_pos h]
    rw [hp] at hg
    by_cases h2 : toB (pL ts) = text
    · have hR : parR text ts = (ts, 0) := by unfold parR; rw [if_pos ⟨h, h2⟩]
      rw [hR]
      exact Ev.bind hg (Ev.congr (fun k => (if_pos rfl).trans (if_pos (by rw [h2]))) (Ev.now _))
    · have hR : parR text ts = ([], 43) := by unfold parR; rw [if_neg (fun x => h2 x.2)]
      rw [hR]
      exact Ev.bind hg (Ev.congr (fun k => (if_pos rfl).trans (if_neg (fun x => h2 ((ba_iff _ _).1 x)))) (Ev.now _))
  · have hp : printS ts = (⟨#[]⟩, 43) := by unfold printS; rw [if_neg h]
    have hR : parR text ts = ([], 43) := by unfold parR; rw [if_neg (fun x => h x.1)]
    rw [hp] at hg
    rw [hR]
    exact Ev.bind hg (Ev.congr (fun k => if_neg (by show ¬ (43 : Int) = 0; decide)) (Ev.now _))
theorem lpa_loop (text : ByteArray) (ws : List (List UInt8)) (ts : List S45) (hl : ts.length = ws.length) (hw : ws.length ≤ 2000000)
    (h : ∀ (i : Nat) (hi : i < ws.length), Ev (fun k => label_term.f k (toB (ws[i]'hi))) (tr (ts[i]'(by omega)))) (d : Nat) : ∀ i : Nat, i + d = ws.length →
    Ev (fun k => label_Parse.l0 k text (ts.take i) (ws.map toB) (ws.length : Int) (i : Int)) (parR text ts) := by
  induction d with
  | zero =>
    intro i hi
    rw [List.take_of_length_le (by omega)]
    refine Ev.step (fun k => ?_) (par_end text ts (fun k => label_Print.f k ts) (print_ev ts))
    simp only [label_Parse.l0]
    rw [if_neg (by omega)]
  | succ d ih =>
    intro i hi
    have hlt : i < ws.length := by omega
    have hih := ih (i + 1) (by omega)
    rw [List.take_succ_eq_append_getElem (by omega)] at hih
    refine Ev.step (f := fun k => (label_term.f k (toB ws[i])).bind fun bt151 => (if (ts.take i).length < 2932031007402 then (label_Parse.l0 k text (ts.take i ++ [(⟨bt151.1, bt151.2.1, bt151.2.2⟩ : S45)]) (ws.map toB) (ws.length : Int) ((i + 1 : Nat) : Int)) else (none))) (fun k => ?_) ?_
    · simp only [label_Parse.l0]
      rw [if_pos (by omega), if_pos (by omega), if_pos (by simp; omega), rd_map ws i hlt, w64 i (by omega)]
    · refine Ev.bind (h i hlt) ?_
      exact Ev.congr (fun k => if_pos (by simp; omega)) hih
theorem parse_of (text : ByteArray) (hs : text.size ≤ 1048576) (hne : text ≠ ⟨#[]⟩) (ts : List S45) (hl : ts.length = (pcs 44 text.data.toList).length)
    (h : ∀ (i : Nat) (hi : i < (pcs 44 text.data.toList).length), Ev (fun k => label_term.f k (toB ((pcs 44 text.data.toList)[i]'hi))) (tr (ts[i]'(by omega)))) : Ev (fun k => label_Parse.f k text) (parR text ts) := by
  have hle := pcs_length_le 44 text.data.toList
  rw [size_list] at hle
  have hloop := lpa_loop text _ ts hl (by omega) h (pcs 44 text.data.toList).length 0 (by omega)
  refine Ev.congr (fun k => ?_) hloop
  unfold label_Parse.f
  rw [if_neg (fun e => hne (ba_ext ((lit_list.1 e).trans rfl))), split_some text 44 (by omega), Option.bind_some, List.length_map]
  rfl
theorem parseL_nil : Ev (fun k => label_Parse.f k ⟨#[]⟩) ([], 0) :=
  Ev.congr (fun k => by unfold label_Parse.f; rw [if_pos (lit_list.2 rfl)]) (Ev.now _)
theorem pL_ne {l : List S45} (h : allB l = true) (h0 : l ≠ []) : pL l ≠ [] := by
  obtain ⟨_, hg⟩ := allB_good h
  cases l with
  | nil => exact absurd rfl h0
  | cons t l =>
    intro e
    unfold pL at e
    rw [List.map_cons, Lib.join_cons] at e
    have := (wS_len (hg t (by simp))).1
    have h2 := congrArg List.length e
    simp only [List.length_append, List.length_nil] at h2
    omega
theorem parseL_yes (l : List S45) (h : allB l = true) : Ev (fun k => label_Parse.f k (toB (pL l))) (l, 0) := by
  by_cases h0 : l = []
  · subst h0
    exact parseL_nil
  obtain ⟨h8, hg⟩ := allB_good h
  have hne : toB (pL l) ≠ ⟨#[]⟩ := fun e => pL_ne h h0 (by have := congrArg (·.data.toList) e; exact this)
  have hp : pcs 44 (toB (pL l)).data.toList = l.map wS := by
    rw [toB_list]
    exact pcs_join 44 (l.map wS) (by simpa using h0) (fun p hp => by
      obtain ⟨t, ht, rfl⟩ := List.mem_map.1 hp
      exact wS_free (hg t ht))
  have hs : (toB (pL l)).size ≤ 1048576 := by
    have h1 := ws_sum l hg
    have h2 := join_len (l.map wS) [44]
    rw [toB_size]
    unfold pL
    simp only [List.length_map, List.length_cons, List.length_nil] at h2
    omega
  have hR : parR (toB (pL l)) l = (l, 0) := by unfold parR; rw [if_pos ⟨h, rfl⟩]
  have hl : l.length = (pcs 44 (toB (pL l)).data.toList).length := by rw [hp, List.length_map]
  have ha := parse_of (toB (pL l)) hs hne l hl (fun i hi => by
    have e : (pcs 44 (toB (pL l)).data.toList)[i]'hi = wS (l[i]'(by omega)) := by simp only [hp, List.getElem_map]
    rw [e]
    exact term_again _ (hg _ (List.getElem_mem _)))
  rw [hR] at ha
  exact ha
theorem each_total (g : Nat → ByteArray → Option (ByteArray × Int × List ByteArray)) (hg : ∀ s : ByteArray, s.size ≤ 1048576 → ∃ r, Ev (fun k => g k s) r) : ∀ ws : List (List UInt8), (∀ p ∈ ws, p.length ≤ 1048576) →
    ∃ ts : List S45, ∃ hl : ts.length = ws.length, ∀ (i : Nat) (hi : i < ws.length), Ev (fun k => g k (toB (ws[i]'hi))) (tr (ts[i]'(by omega)))
  | [], _ => ⟨[], rfl, fun i hi => by simp at hi⟩
  | p :: ws, h => by
    obtain ⟨ts, hl, ih⟩ := each_total g hg ws (fun q hq => h q (by simp [hq]))
    obtain ⟨⟨a, b, c⟩, hr⟩ := hg (toB p) (by rw [toB_size]; exact h p (by simp))
    refine ⟨⟨a, b, c⟩ :: ts, by simp [hl], fun i hi => ?_⟩
    cases i with
    | zero => exact hr
    | succ i => exact ih i (by simpa using hi)
theorem parseL_no (text : ByteArray) (hs : text.size ≤ 1048576) (h : ∀ l, allB l = true → toB (pL l) ≠ text) : Ev (fun k => label_Parse.f k text) ([], 43) := by
  have hne : text ≠ ⟨#[]⟩ := fun e => h [] rfl (by rw [e]; rfl)
  have hle : ∀ p ∈ pcs 44 text.data.toList, p.length ≤ 1048576 := fun p hp => by
    have := pcs_le 44 _ p hp
    rw [size_list] at this
    omega
  have hR : ∀ ts, parR text ts = ([], 43) := fun ts => by unfold parR; rw [if_neg (fun x => h ts x.1 x.2)]
  obtain ⟨ts, hl, ht⟩ := each_total (fun k s => label_term.f k s) term_total _ hle
  have ha := parse_of text hs hne ts hl ht
  rw [hR] at ha
  exact ha
theorem st_loop (l : List S45) (hl : l.length ≤ 2000000) (hv : ∀ t ∈ l, t.f2.length ≤ 2000000) (d : Nat) : ∀ i : Nat, i + d = l.length → Ev (fun k => bursarlaw04_sameTerms.l0 k l l (i : Int)) true := by
  induction d with
  | zero =>
    intro i hi
    exact Ev.step (f := fun _ => some true) (fun k => by simp only [bursarlaw04_sameTerms.l0]; rw [if_neg (by omega)]) (Ev.now _)
  | succ d ih =>
    intro i hi
    have hlt : i < l.length := by omega
    refine Ev.step (f := fun k => (bursarlaw04_sameTexts.f k l[i].f2 l[i].f2).bind fun t216 => (if t216 = true then (bursarlaw04_sameTerms.l0 k l l ((i + 1 : Nat) : Int)) else (some false))) (fun k => ?_) ?_
    · simp only [bursarlaw04_sameTerms.l0]
      rw [if_pos (by omega), if_pos (by omega), if_pos (by omega), rd45 l i hlt, if_pos trivial, if_pos trivial, w64 i (by omega)]
    · refine Ev.bind (same_ev _ (hv _ (List.getElem_mem _))) ?_
      exact Ev.congr (fun k => if_pos rfl) (ih (i + 1) (by omega))
theorem sameTerms_ev (l : List S45) (hl : l.length ≤ 2000000) (hv : ∀ t ∈ l, t.f2.length ≤ 2000000) : Ev (fun k => bursarlaw04_sameTerms.f k l l) true := by
  refine Ev.congr (fun k => ?_) (st_loop l hl hv l.length 0 (by omega))
  unfold bursarlaw04_sameTerms.f
  rw [if_pos rfl]
  rfl
theorem ow_loop (l : List S45) (hl : l.length ≤ 2000000) (hv : ∀ t ∈ l, t.f2.length ≤ 2000000) (d : Nat) : ∀ i : Nat, i + d = l.length → Ev (fun k => bursarlaw04_own.l0 k l (l.take i) (i : Int)) l := by
  induction d with
  | zero =>
    intro i hi
    rw [List.take_of_length_le (by omega)]
    exact Ev.step (f := fun _ => some l) (fun k => by simp only [bursarlaw04_own.l0]; rw [if_neg (by omega)]) (Ev.now _)
  | succ d ih =>
    intro i hi
    have hlt : i < l.length := by omega
    have hih := ih (i + 1) (by omega)
    rw [List.take_succ_eq_append_getElem hlt] at hih
    have h2 := hv _ (List.getElem_mem hlt)
    refine Ev.step (fun k => ?_) hih
    simp only [bursarlaw04_own.l0]
    rw [if_pos (by omega), if_pos (by omega), rd45 l i hlt, if_pos (by simp; omega), if_pos (by simp; omega), w64 i (by omega), List.nil_append]
theorem own_ev (l : List S45) (hl : l.length ≤ 2000000) (hv : ∀ t ∈ l, t.f2.length ≤ 2000000) : Ev (fun k => bursarlaw04_own.f k l) l := ow_loop l hl hv l.length 0 (by omega)
theorem good_f2 {t : S45} (h : Good t) : t.f2.length ≤ 8 := by
  cases h with
  | has key hk => simp
  | hasNot key hk => simp
  | one key hk how hh v hv => simp
  | many key hk how hh v mid z hv hl => simp; omega
end Go.Proofs.YteaiobgnhlpblaaDoor.Q
namespace Go.Proofs.YteaiobgnhlpblaaDoor.Q
open Go.RowKit Go.Proofs.YteaiobgnhlpblaaDoorW.PrintWords Go.Proofs.YteaiobgnhlpblaaDoorW.PrintLast Go.ChangeShapes
set_option linter.unusedVariables false
set_option linter.unusedSimpArgs false
section
variable {H : Type} (enc : TypeId × Value → H) (P : Program) (w : World) (base : Nat) (spare : Nat → Bool) (held : Bool)
def Opens (t : TypeId) {α : Type} (d : Kd α) (Rel : DataW H → α → Prop) : Prop :=
  ∀ (fuel : Nat) (cs : List Value) (x : DataW H × List MemPlace), DataW.trod enc P w base spare held fuel t cs = some x → ∃ a, d.K w a cs ∧ Rel x.1 a
def OpensFs {α : Type} (off : Nat) (fs : List Field) (d : Kd α) (Rel : List (DataW H) → α → Prop) : Prop :=
  ∀ (n : Nat) (cs : List Value) (xs : List (DataW H × List MemPlace)), xs.length = fs.length → cs.length = off + d.sz →
    (∀ (i : Nat) (f : Field), fs[i]? = some f → DataW.trod enc P w base spare held n f.type ((cs.drop f.offset).take (P.cellsOf f.type)) = xs[i]?) → ∃ a, d.K w a (cs.drop off) ∧ Rel (xs.map (·.1)) a
variable {enc : TypeId × Value → H} {P : Program} {w : World} {base : Nat} {spare : Nat → Bool} {held : Bool}
theorem opens_string {t : TypeId} (ht : P.underlying t = some .string) : Opens enc P w base spare held t Kd.string (fun x (s : ByteArray) => x = .lit (.string s.data.toList) ∧ s.size ≤ maxLen) := by
  intro fuel cs x h
  obtain ⟨s, rfl, rfl, hs⟩ := DataW.trod_string ht h
  exact ⟨s, rfl, rfl, hs⟩
theorem opens_int {t : TypeId} {k : IntKind} (ht : P.underlying t = some (.int k)) : Opens enc P w base spare held t (Kd.int k) (fun x (n : Int) => x = .lit (.int k n) ∧ (Lit.int k n).wf = true) := by
  intro fuel cs x h
  obtain ⟨s, rfl, rfl, hs⟩ := DataW.trod_int ht h
  exact ⟨s, rfl, rfl, hs⟩
theorem list_of {α : Type} {p : Nat → α → Prop} : ∀ n : Nat, (∀ i, i < n → ∃ x, p i x) → ∃ l : List α, l.length = n ∧ ∀ i x, l[i]? = some x → p i x
  | 0, _ => ⟨[], rfl, fun i x h => by simp at h⟩
  | n + 1, h => by
    obtain ⟨l, hl, hp⟩ := list_of n (fun i hi => h i (by omega))
    obtain ⟨x, hx⟩ := h n (by omega)
    refine ⟨l ++ [x], by simp [hl], fun i y hy => ?_⟩
    rcases Nat.lt_trichotomy i n with h1 | h1 | h1
    · rw [List.getElem?_append_left (by omega)] at hy; exact hp i y hy
    · subst h1
      rw [List.getElem?_append_right (by omega), hl, Nat.sub_self] at hy
      simp at hy
      exact hy ▸ hx
    · rw [List.getElem?_eq_none (by simp; omega)] at hy; cases hy
def RowD {H : Type} {α : Type} (Rel : DataW H → α → Prop) (x : DataW H) (l : List α) : Prop :=
  (x = .nil ∧ l = []) ∨ ∃ es r, x = .slice es r ∧ es.length = l.length ∧ ∀ (i : Nat) e a, es[i]? = some e → l[i]? = some a → Rel e a
theorem opens_slice {t e : TypeId} {α : Type} {d : Kd α} {Rel : DataW H → α → Prop} (e' : Nat) (ht : P.underlying t = some (.slice e)) (hc : P.cellsOf e = d.sz) (h : Opens enc P w base spare held e d Rel) :
    Opens enc P w base spare held t (Kd.slice e' d) (fun x l => RowD Rel x l ∧ l.length ≤ maxLen) := by
  intro fuel cs x hx
  have h63 : maxLen ≤ 9223372036854775807 := by decide
  rcases Go.Deep.open_slice ht hx with ⟨rfl, rfl⟩ | ⟨a, len, cap, m, n, D, Pl, rfl, hb, hl, hm, hmm, rfl, hi⟩
  · exact ⟨[], ⟨none, 0, rfl, Nat.le_refl _, rfl, Nat.zero_le _, fun h => absurd h (Nat.lt_irrefl 0)⟩, .inl ⟨rfl, rfl⟩, Nat.zero_le _⟩
  · have hlm : len ≤ m := by rw [hmm]; split <;> omega
    obtain ⟨l, hll, hp⟩ := list_of (α := α) (p := fun i y => ∃ cs', w.cells? base (a.add (i * P.cellsOf e)) (P.cellsOf e) = some cs' ∧ d.K w y cs' ∧ Rel (D i) y) len (fun i h1 => by
      obtain ⟨cs', h2, h3⟩ := hi i (by omega)
      obtain ⟨y, hy, hr⟩ := h n cs' _ h3
      exact ⟨y, cs', h2, hy, hr⟩)
    subst hll
    refine ⟨l, ⟨some a, cap, rfl, hl, rfl, by omega, fun _ => ⟨a, rfl, fun j p hj => ?_⟩⟩, .inr ⟨_, _, rfl, by simp, fun i e' a' h1 h2 => ?_⟩, by omega⟩
    · obtain ⟨cs', h2, h3, _⟩ := hp j p hj
      obtain ⟨_, h4, h5⟩ := World.cells?_some h2
      refine ⟨cs', by rw [h4, hc], h3, fun i u hu => ?_⟩
      have hil : i < cs'.length := (List.getElem?_eq_some_iff.1 hu).1
      have := h5 i (by omega)
      rw [hu, Go.Deep.add_add, hc] at this
      exact this
    · obtain ⟨_, _, _, h4⟩ := hp i a' h2
      have hil : i < l.length := (List.getElem?_eq_some_iff.1 h2).1
      simp [hil] at h1
      subst h1
      exact h4
theorem opens_one {f : Field} {off : Nat} {α : Type} {d : Kd α} {Rel : DataW H → α → Prop} (hf : f.offset = off) (hc : P.cellsOf f.type = d.sz) (h : Opens enc P w base spare held f.type d Rel) :
    OpensFs enc P w base spare held off [f] d (fun l a => ∃ y, l = [y] ∧ Rel y a) := by
  intro n cs xs hx hcs hi
  obtain ⟨x, rfl⟩ := List.length_eq_one_iff.1 (show xs.length = 1 from hx)
  have h0 := hi 0 f rfl
  rw [hf, hc, List.take_of_length_le (by rw [List.length_drop]; omega)] at h0
  obtain ⟨a, ha, hr⟩ := h n _ x h0
  exact ⟨a, ha, _, rfl, hr⟩
theorem opens_cons {f : Field} {fs : List Field} {off : Nat} {α β : Type} {d0 : Kd α} {d : Kd β} {R0 : DataW H → α → Prop} {R : List (DataW H) → β → Prop} (hf : f.offset = off) (hc : P.cellsOf f.type = d0.sz) (h0 : Opens enc P w base spare held f.type d0 R0)
    (h : OpensFs enc P w base spare held (off + d0.sz) fs d R) : OpensFs enc P w base spare held off (f :: fs) (Kd.pair d0 d) (fun l a => ∃ y r, l = y :: r ∧ R0 y a.1 ∧ R r a.2) := by
  intro n cs xs hx hcs hi
  cases xs with
  | nil => simp at hx
  | cons x xs =>
    have hsz : (Kd.pair d0 d).sz = d0.sz + d.sz := rfl
    rw [hsz] at hcs
    have h1 := hi 0 f rfl
    rw [hf, hc] at h1
    obtain ⟨a, ha, hr⟩ := h0 n _ x h1
    obtain ⟨b, hb, hs⟩ := h n cs xs (by simpa using hx) (by omega) (fun i g hg => hi (i + 1) g hg)
    refine ⟨(a, b), ⟨_, _, ?_, ha, hb⟩, _, _, rfl, hr, hs⟩
    rw [← List.drop_drop]
    exact (List.take_append_drop _ _).symm
theorem opens_struct {t : TypeId} {fs : Array Field} {α β : Type} {d : Kd α} {R : List (DataW H) → α → Prop} (f : β → α) (g : α → β) (hg : ∀ a, f (g a) = a) (ht : P.underlying t = some (.struct fs)) (hc : P.cellsOf t = d.sz) (h : OpensFs enc P w base spare held 0 fs.toList d R) :
    Opens enc P w base spare held t (Kd.iso d f) (fun x b => ∃ l, x = .agg l ∧ R l (f b)) := by
  intro fuel cs x hx
  obtain ⟨xs, n, _, rfl, hl, hxl, hi⟩ := DataW.trod_struct ht hx
  obtain ⟨a, ha, hr⟩ := h n cs xs (by simpa using hxl) (by rw [hl, hc, Nat.zero_add]) (fun i g hg' => hi i g (by rw [← Array.getElem?_toList]; exact hg'))
  rw [List.drop_zero] at ha
  refine ⟨g a, ?_, _, rfl, ?_⟩
  · show d.K w (f (g a)) cs
    rw [hg]; exact ha
  · rw [hg]; exact hr
theorem row_open {t e : TypeId} {α : Type} {d : Kd α} {Rel : DataW H → α → Prop} {A : Option Addr} {len cap : Nat} {x : DataW H} {ps : List MemPlace} (ht : P.underlying t = some (.slice e)) (hc : P.cellsOf e = d.sz)
    (h : Opens enc P w base spare held e d Rel) (hx : ∃ m, DataW.trod enc P w base spare held m t [.slice A len cap] = some (x, ps)) :
    ∃ l : List α, len = l.length ∧ d.C w A l.length l ∧ l.length ≤ cap ∧ RowD Rel x l ∧ l.length ≤ maxLen := by
  obtain ⟨m, hm⟩ := hx
  obtain ⟨l, ⟨A', c', he, hlc, hC⟩, hr, hml⟩ := opens_slice 0 ht hc h m _ _ hm
  injection he with he _
  injection he with h1 h2 h3
  subst h1 h2 h3
  exact ⟨l, rfl, hC, hlc, hr, hml⟩
end
theorem bulk_pos {H : Type} (d : DataW H) : 1 ≤ Rows.uptoBulk d := by
  cases d with
  | lit l => cases l <;> simp only [Rows.uptoBulk] <;> omega
  | nil => simp only [Rows.uptoBulk]; omega
  | ptr d => simp only [Rows.uptoBulk]; omega
  | slice a b => simp only [Rows.uptoBulk]; omega
  | agg p => simp only [Rows.uptoBulk]; omega
  | iface a d => simp only [Rows.uptoBulk]; omega
  | map e => simp only [Rows.uptoBulk]; omega
  | _ => simp only [Rows.uptoBulk]; omega
theorem bulk_all {H : Type} : ∀ l : List (DataW H), l.length ≤ Rows.uptoBulkAll l ∧ ∀ (i : Nat) x, l[i]? = some x → Rows.uptoBulk x ≤ Rows.uptoBulkAll l
  | [] => ⟨Nat.zero_le _, fun i x h => by simp at h⟩
  | d :: l => by
    obtain ⟨h1, h2⟩ := bulk_all l
    have hp := bulk_pos d
    simp only [Rows.uptoBulkAll, List.length_cons]
    refine ⟨by omega, fun i x h => ?_⟩
    cases i with
    | zero => simp at h; subst h; omega
    | succ i => have := h2 i x (by simpa using h); omega
theorem bulk_row {H : Type} {α : Type} {Rel : DataW H → α → Prop} {x : DataW H} {l : List α} (h : RowD Rel x l) : l.length ≤ Rows.uptoBulk x ∧ ∀ (i : Nat) a, l[i]? = some a → ∃ e, Rel e a ∧ Rows.uptoBulk e ≤ Rows.uptoBulk x := by
  rcases h with ⟨rfl, rfl⟩ | ⟨es, r, rfl, hl, he⟩
  · exact ⟨Nat.zero_le _, fun i a h => by simp at h⟩
  · obtain ⟨h1, h2⟩ := bulk_all es
    simp only [Rows.uptoBulk]
    refine ⟨by omega, fun i a ha => ?_⟩
    have hil : i < es.length := by rw [hl]; exact (List.getElem?_eq_some_iff.1 ha).1
    have hes : es[i]? = some es[i] := List.getElem?_eq_getElem hil
    exact ⟨es[i], he i _ _ hes ha, by have := h2 i _ hes; omega⟩
theorem bulk_agg {H : Type} {l : List (DataW H)} (i : Nat) (x : DataW H) (h : l[i]? = some x) : Rows.uptoBulk x ≤ Rows.uptoBulk (.agg l) := by
  have := (bulk_all l).2 i x h
  simp only [Rows.uptoBulk]
  omega
end Go.Proofs.YteaiobgnhlpblaaDoor.Q
namespace Go.Proofs.YteaiobgnhlpblaaDoor.Q
open Go.RowKit Go.Proofs.YteaiobgnhlpblaaDoorW.PrintWords Go.Proofs.YteaiobgnhlpblaaDoorW.PrintLast Go.ChangeShapes
set_option linter.unusedVariables false
set_option linter.unusedSimpArgs false
def StrD {H : Type} (x : DataW H) (s : ByteArray) : Prop := x = .lit (.string s.data.toList) ∧ s.size ≤ maxLen
def TermD {H : Type} (x : DataW H) (b : S45) : Prop :=
  ∃ l, x = .agg l ∧ ∃ y r, l = y :: r ∧ StrD y b.f0 ∧ ∃ y2 r2, r = y2 :: r2 ∧ (y2 = .lit (.int .i64 b.f1) ∧ (Lit.int .i64 b.f1).wf = true) ∧ ∃ y3, r2 = [y3] ∧ (RowD StrD y3 b.f2 ∧ b.f2.length ≤ maxLen)
section
variable {H : Type} {enc : TypeId × Value → H} {w : World} {base : Nat} {spare : Nat → Bool} {held : Bool}
theorem opens45 : Opens enc Tryd.prog w base spare held 45 k45 TermD :=
  opens_struct (fun x : S45 => (x.f0, x.f1, x.f2)) (fun a => ⟨a.1, a.2.1, a.2.2⟩) (fun _ => rfl) Tryd.underlying45 (by kernel_rfl)
    (opens_cons rfl (by kernel_rfl) (opens_string Tryd.underlying9) (opens_cons rfl (by kernel_rfl) (opens_int Tryd.underlying3) (opens_one rfl (by kernel_rfl) (opens_slice 9 Tryd.underlying35 (by kernel_rfl) (opens_string Tryd.underlying9)))))
end
def Small45 (l : List S45) : Prop := l.length ≤ 1048576 ∧ ∀ t ∈ l, t.f2.length ≤ 1048576
theorem small45 {H : Type} {d : DataW H} {l : List S45} (h : RowD TermD d l) (hb : Rows.uptoBulk d ≤ 1048576) : Small45 l := by
  obtain ⟨h1, h2⟩ := bulk_row h
  refine ⟨by omega, fun t ht => ?_⟩
  obtain ⟨i, hi, rfl⟩ := List.getElem_of_mem ht
  obtain ⟨e, ⟨l', rfl, y, r, rfl, _, y2, r2, rfl, _, y3, rfl, h3, _⟩, he⟩ := h2 i _ (List.getElem?_eq_getElem hi)
  have := bulk_agg (l := [y, y2, y3]) 2 y3 rfl
  have := (bulk_row h3).1
  omega
end Go.Proofs.YteaiobgnhlpblaaDoor.Q
namespace Go.Proofs.YteaiobgnhlpblaaDoor.Pure
open Go.RowKit Go.Proofs.YteaiobgnhlpblaaDoorW.PrintWords Go.Proofs.YteaiobgnhlpblaaDoorW.PrintLast Go.Proofs.YteaiobgnhlpblaaDoor.Q Go.Proofs.YteaiobgnhlpblaaDoor.Pl
set_option linter.unusedVariables false
set_option linter.unusedSimpArgs false
theorem LabelReadsBack (text : ByteArray) (terms : List S45) (hs : text.size ≤ 1048576) (ht : Small45 terms) : ∃ k, bursarlaw04_LabelReadsBack.f k text terms = some true := by
  refine Ev.rounds ?_
  unfold Small45 at ht
  have hj0 : Ev (fun k => bursarlaw04_LabelReadsBack.j0 k terms) true := by
    refine Ev.step (f := fun k => (bursarlaw04_own.f k terms).bind fun t259 => ((label_Print.f k t259).bind fun bt262 => (if bt262.2 = 0 then ((label_Parse.f k bt262.1).bind fun bt264 => (if bt264.2 = 0 then ((bursarlaw04_sameTerms.f k bt264.1 terms).bind fun t268 => (some t268)) else (some false))) else (if bt262.2 = 43 then (some (bt262.1.toList == ([] : List UInt8))) else (some false))))) (fun k => by simp only [bursarlaw04_LabelReadsBack.j0]) ?_
    refine Ev.bind (own_ev terms (by omega) (fun t h => by have := ht.2 t h; omega)) ?_
    refine Ev.bind (print_ev terms) ?_
    unfold printS
    by_cases h : allB terms = true
    · rw [if_pos h]
      refine Ev.congr (fun k => if_pos rfl) ?_
      refine Ev.bind (parseL_yes terms h) ?_
      refine Ev.congr (fun k => if_pos rfl) ?_
      exact Ev.bind (sameTerms_ev terms (by omega) (fun t h => by have := ht.2 t h; omega)) (f := fun _ t => some t) (Ev.now true)
    · rw [if_neg h]
      refine Ev.congr (fun k => (if_neg (by decide)).trans (if_pos rfl)) ?_
      have : (((⟨#[]⟩ : ByteArray), (43 : Int)).1.toList == ([] : List UInt8)) = true := beq_iff_eq.2 (lit_list.2 rfl)
      rw [this]
      exact Ev.now _
  refine Ev.congr (fun k => rfl) (Ev.bind fixed_ev (f := fun k t445 => _) ?_)
  refine Ev.congr (fun k => if_pos rfl) ?_
  by_cases h : ∃ l, allB l = true ∧ toB (pL l) = text
  · obtain ⟨l, h, rfl⟩ := h
    have ha := parseL_yes l h
    obtain ⟨h8, hg⟩ := allB_good h
    refine Ev.bind ha ?_
    refine Ev.congr (fun k => if_pos rfl) ?_
    refine Ev.bind (own_ev l (by omega) (fun t ht => by have := good_f2 (hg t ht); omega)) ?_
    refine Ev.bind (print_ev l) ?_
    have : printS l = (toB (pL l), 0) := by unfold printS; rw [if_pos h]
    rw [this]
    exact Ev.congr (fun k => (if_pos rfl).trans (if_pos rfl)) hj0
  · have ha := parseL_no text hs (fun l hl e => h ⟨l, hl, e⟩)
    refine Ev.bind ha ?_
    exact Ev.congr (fun k => (if_neg (by decide)).trans (if_pos rfl)) hj0
end Go.Proofs.YteaiobgnhlpblaaDoor.Pure
namespace Go.Proofs.YteaiobgnhlpblaaDoor.labelReadsBack
open Go.ChangeShapes Go.WideShapes Go.ChangeAt Go.RowKit
open Go.ChangeMaps (open_string shut_string)
set_option linter.unusedVariables false
set_option linter.unusedSimpArgs false
theorem own : ownKnob Tryd.prog.godebug = none := by kernel_rfl
theorem laidOut : laidOutB Tryd.prog = true := by kernel_rfl
theorem contract (H : Type) (enc : TypeId × Value → H) (W : World) (base : Nat) (args : Array Value) (ds gs : List (DataW H)) (before : List MemPlace)
    (hval0 : ∀ (j : Nat) t v, Tryd.f4.params[j]? = some t → args[j]? = some v → Value.okWide Tryd.prog W .any base t v)
    (hW : DataW.Whole enc Tryd.prog Tryd.f4.params.toList Rows.labelReadsBackSpec.vars false W args.toList ds gs before)
    (hk : Rows.uptoSmall H (ds ++ gs) = true)
    (hsh : W.ShapedOpen Tryd.prog)
    : Calls Tryd.prog 4 args W fun e W' => ∃ v, e = .returned v ∧ Rows.labelReadsBackSpec.post enc Tryd.prog Tryd.f4 false true false false W args v W' := by
  have hval : ∀ (j : Nat) t v, Tryd.f4.params[j]? = some t → args[j]? = some v → Value.okWide Tryd.prog W .any base t v := hval0
  have hW' := hW
  obtain ⟨p, q, hA0, hV, rfl, hfz, hnd⟩ := hW
  have hA : DataW.TrodAll enc Tryd.prog W 0 (fun _ => true) true Tryd.f4.params.toList args.toList ds p := hA0
  rw [Tryd.params4] at hA hval
  obtain ⟨v0, vs0, d0, ds0, p0, q0, hargs, rfl, rfl, h0, r0⟩ := trodAll_cons hA
  obtain ⟨v1, vs1, d1, ds1, p1, q1, rfl, rfl, rfl, h1, r1⟩ := trodAll_cons r0
  obtain ⟨rfl, rfl, rfl⟩ := trodAll_nil r1
  obtain rfl : args = #[v0, v1] := by cases args; simp_all
  obtain ⟨rfl, rfl⟩ := trodVars_none hV
  obtain ⟨a0, rfl, rfl, rfl, y0⟩ := open_string Tryd.underlying9 (hval 0 9 v0 rfl rfl) h0
  obtain ⟨A1, len1, cap1, rfl⟩ := okWide_slice Tryd.underlying23 (hval 1 23 v1 rfl rfl)
  have k1 := h1
  have lt1 : ∀ x ∈ p1, x.block < W.heap.size := by obtain ⟨m, hm⟩ := k1; exact DataW.trod_lt m _ _ _ hm
  obtain ⟨l1, rfl, hr1, hc1, hz1, hm1⟩ := Q.row_open Tryd.underlying23 (by kernel_rfl) Q.opens45 h1
  have hb := of_decide_eq_true hk
  simp only [List.append_nil, List.cons_append, List.nil_append, Rows.uptoBulkAll, Rows.uptoBulk, Array.length_toList] at hb
  have b0 : a0.size ≤ 1048576 := by have : a0.data.size = a0.size := rfl; omega
  have c1 : Q.Small45 l1 := Q.small45 hz1 (by omega)
  obtain ⟨k, hp⟩ := Pure.LabelReadsBack a0 l1 b0 c1
  refine (Q.bursarlaw04_LabelReadsBack.calls k a0 A1 cap1 l1 true W hr1 hc1 hp ⟨Tryd.laysM146.s1_3 W hsh⟩).mono fun e W' ⟨he, bel⟩ => ?_
  subst he
  exact ⟨_, rfl, _, _, _, [], _, [], hW', trodAll_mk1 (shut_bool Tryd.underlying4 _), (trodAll_cons_mk (shut_string Tryd.underlying9 y0) (trodAll_cons_mk (Below.trod laidOut (by kernel_rfl) (of_decide_eq_true (by kernel_rfl)) k1 bel lt1) trodAll_mk0)), rfl, bel.frame _, fun h => by cases h⟩
noncomputable def tab1 : Obj → Obj
  | .cells _ t frozen => .cells (Go.Pinned.utf8FirstZ.map fun (n : Nat) => Value.int .u8 (n : Int)).toArray t frozen
  | o => o
noncomputable def tab2 : Obj → Obj
  | .cells _ t frozen => .cells #[.int .u8 128, .int .u8 191, .int .u8 160, .int .u8 191, .int .u8 128, .int .u8 159, .int .u8 144, .int .u8 191, .int .u8 128, .int .u8 143, .int .u8 0, .int .u8 0, .int .u8 0, .int .u8 0, .int .u8 0, .int .u8 0, .int .u8 0, .int .u8 0, .int .u8 0, .int .u8 0, .int .u8 0, .int .u8 0, .int .u8 0, .int .u8 0, .int .u8 0, .int .u8 0, .int .u8 0, .int .u8 0, .int .u8 0, .int .u8 0, .int .u8 0, .int .u8 0] t frozen
  | o => o
noncomputable def laidWorld (os : Os) : World :=
  { World.holding Tryd.prog os ⟨#[], #[], []⟩ with heap := ((World.holding Tryd.prog os ⟨#[], #[], []⟩).heap.modify 1 tab1).modify 2 tab2 }
theorem laid_met (os : Os) : laidMet Tryd.prog Rows.labelReadsBackRow.laid ((laidWorld os).forCall (fun _ _ => 0) ⟨#[], #[.string ByteArray.empty, .slice none 0 0], []⟩).memory :=
  laidMet_of_run' 8 (by kernel_rfl) (by kernel_rfl)
theorem reads (os : Os) {H : Type} (enc : TypeId × Value → H) : ∃ places, DataW.whole enc Tryd.prog ((laidWorld os).forCall (fun _ _ => 0) ⟨#[], #[.string ByteArray.empty, .slice none 0 0], []⟩).memory Tryd.f4.params.toList Rows.labelReadsBackSpec.vars false (#[.string ByteArray.empty, .slice none 0 0] : Array Value).toList 8 = some ([.lit (.string []), .nil], [], places) :=
  ⟨[], by kernel_rfl⟩
set_option maxRecDepth 100000 in
theorem lifted (os : Os) (started : os.Started) (H : Type) (enc : TypeId × Value → H) (F : Stop.Interp) :
    ReturnsInHanded {} Tryd.checked os 4 .any ((Rows.OpenSpec.upto Rows.labelReadsBackSpec).preRow enc Tryd.prog Tryd.f4 Rows.labelReadsBackUptoRow.domain false Rows.labelReadsBackUptoRow.laid) (((Rows.OpenSpec.upto Rows.labelReadsBackSpec).at F).post enc Tryd.prog Tryd.f4 false true false false) := by
  obtain ⟨places, hx⟩ := reads os enc
  refine returnsInHanded_of_row (C := Tryd.checked) (s := Rows.OpenSpec.upto Rows.labelReadsBackSpec) own started (by kernel_rfl) Tryd.func4
    (witness_row_at (enc := enc) (C := Tryd.checked) false (laidWorld os) #[.string ByteArray.empty, .slice none 0 0] rfl (by kernel_rfl) (by kernel_rfl) (by kernel_rfl)
      (OpenSpec.preRow_of_cond 8 hx (by kernel_rfl) (fun k hk => by cases hk; kernel_rfl) (by kernel_rfl) (laid_met os))) ?_
  intro W base args ds gs before hval hW _ hcond hsz _ hsh _
  exact contract H enc W base args ds gs before hval hW (hcond _ rfl) hsh
theorem said : Rows.LabelReadsBackUptoSaid :=
  OpenClaim.holds_of_cond 4 Tryd.f4 rfl rfl rfl rfl rfl rfl rfl ⟨rfl, rfl, rfl, rfl, rfl⟩ rfl rfl rfl rfl rfl (by kernel_rfl) Tryd.func4 (by kernel_rfl)
    (of_decide_eq_true (by kernel_rfl)) (by unfold Func.isWrapper; first | (rw [if_pos (by decide +kernel)]; kernel_rfl) | (rw [if_neg (by decide +kernel)]; exact ⟨rfl, rfl⟩))
    (fun os started H enc _ F => by rw [OpenClaim.pre_eq_preRow]; exact lifted os started H enc F)
theorem plain (f : FuncId) (fn : Func) (hf : Tryd.pinned.checked.prog.funcNamed "bursar/bursarlaw04.LabelReadsBack" = some f) (hfn : Tryd.pinned.checked.prog.funcs[f]? = some fn) :
    false = Tryd.pinned.checked.prog.looks [] ∧ ∀ (j : Nat) t, fn.params[j]? = some t → Tryd.pinned.checked.prog.wantsStandIn t = false := by
  obtain rfl : f = 4 := Option.some.inj ((show Tryd.prog.funcNamed "bursar/bursarlaw04.LabelReadsBack" = some 4 by kernel_rfl).symm.trans hf) |>.symm
  obtain rfl : fn = Tryd.f4 := (Option.some.inj (Tryd.func4.symm.trans hfn)).symm
  refine ⟨by kernel_rfl, fun j t ht => ?_⟩
  rw [Tryd.params4] at ht
  have hall : ∀ x ∈ [9, 23], Tryd.prog.wantsStandIn x = false := by
    intro x hx; simp only [List.mem_cons, List.mem_nil_iff, or_false] at hx; rcases hx with rfl | rfl <;> kernel_rfl
  exact hall t (by simpa using Array.mem_of_getElem? ht)
theorem card : Rows.LabelReadsBackUptoCardSaid :=
  Claim7.holds_tied_plain_at .later [] _ _ _ _ said (fun _ h => by cases h) (by kernel_rfl) (fun _ h => by cases h) labelReadsBackUpto_row_tie rfl ⟨rfl, rfl⟩ (by kernel_rfl) rfl plain (by kernel_rfl)
end Go.Proofs.YteaiobgnhlpblaaDoor.labelReadsBack
namespace Go.Proofs.YteaiobgnhlpblaaDoor
theorem labelReadsBack_holds : Rows.LabelReadsBackUptoCardSaid := labelReadsBack.card
end Go.Proofs.YteaiobgnhlpblaaDoor
