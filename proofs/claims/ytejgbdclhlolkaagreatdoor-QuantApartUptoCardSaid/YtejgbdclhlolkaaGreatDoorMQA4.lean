/- What the statement QuantApartUptoCardSaid rests on, part 4 of 5: walks and plain laws; what of the printer's words it leans on. -/
import Derived.Test.YtejgbdclhlolkaaGreatDoorMQA3
import Derived.Maps.RangeWalk
import Derived.Maps.OwnSet
import Derived.Shelf.SlSortCmp.NoneTotal
import Derived.BigQuiet
namespace Go.Proofs.YtejgbdclhlolkaaGreatDoor.Q
open Go.RowKit Go.Lib Go.Sort Go.Shelf Go.Proofs.YtejgbdclhlolkaaGreatDoorW.PrintWords Go.Proofs.YtejgbdclhlolkaaGreatDoorW.PrintLast
set_option linter.unusedVariables false
set_option linter.unusedSimpArgs false
theorem cmp_less : ∀ a b : List UInt8, decide (Lib.compareBytes a b < 0) = Op.bytesLess a b
  | [], [] => rfl
  | [], _ :: _ => rfl
  | _ :: _, [] => rfl
  | a :: x, b :: y => by
    simp only [Lib.compareBytes, Op.bytesLess]
    by_cases h1 : a < b
    · simp [h1]
    · by_cases h2 : b < a
      · have : (a == b) = false := beq_eq_false_iff_ne.2 (fun e => by subst e; exact h1 h2)
        simp [h1, h2, this]
      · have e : a = b := UInt8.le_antisymm (UInt8.not_lt.1 h2) (UInt8.not_lt.1 h1)
        subst e
        simp [h1, cmp_less x y]
instance : Inhabited S57 := ⟨z57⟩
def encAm (x : S57) : List Value := [.string x.f0, .int .i64 x.f1]
def cmpAm (x y : S57) : Int := Lib.compareBytes x.f0.data.toList y.f0.data.toList
theorem ltAm (x y : S57) : ltOf cmpAm x y = Op.bytesLess x.f0.data.toList y.f0.data.toList := by
  unfold ltOf cmpAm
  exact cmp_less _ _
theorem swoAm : SWO (ltOf cmpAm) where
  irrefl x := by rw [ltAm]; exact less_irrefl _
  trans x y z h1 h2 := by rw [ltAm] at *; exact less_trans _ _ _ h1 h2
  ntrans x y z h1 h2 := by
    rw [ltAm] at *
    cases h3 : Op.bytesLess x.f0.data.toList z.f0.data.toList with
    | false => rfl
    | true =>
      exfalso
      have t := less_total y.f0.data.toList x.f0.data.toList
      rw [h1, Bool.not_false, Bool.or_eq_true] at t
      rcases t with t | t
      · rw [less_trans _ _ _ t h3] at h2; cases h2
      · rw [beq_iff_eq] at t
        rw [t, h3] at h2; cases h2
set_option maxHeartbeats 2000000 in
set_option maxRecDepth 100000 in
theorem listed1_calls (x y : S57) (W : World) : Calls Tryz.prog 96 #[.agg #[.string x.f0, .int .i64 x.f1], .agg #[.string y.f0, .int .i64 y.f1]] W fun e w' => e = .returned (.int .i64 (cmpAm x y)) ∧ ∃ q os', w' = grow (W.drewN q) os' := by
  have hu57 := Tryz.underlying57
  have hcon := fun W' => Tryz.strings_Compare x.f0 y.f0 W'
  change ∀ W', Calls Tryz.prog 97 _ _ (fun e w' => e = .returned (.int .i64 (cmpAm x y)) ∧ w' = W') at hcon
  generalize cmpAm x y = r at hcon ⊢
  go_enter Tryz.func96, Tryz.ntmps96
  go_wp2_with (go_at_call 97; refine (hcon _).mono ?_; rintro e w' ⟨rfl, rfl⟩)
  go_ret
  exact ⟨rfl, 0, _, by rw [alloc_eq_grow, alloc_eq_grow, grow_grow]; rfl⟩
theorem cmpLaysAm (blk off size : Nat) (w : World) : CmpLays Tryz.prog 96 #[] encAm 2 cmpAm blk off size w :=
  fun _ _ _ _ x y => listed1_calls x y _
theorem sort_calls (blk off cap : Nat) (d : Array S57) (w : World) (hH : HoldsK encAm 2 w blk off d) (hblk : blk < w.heap.size) (hsz : d.size < 4611686018427387904) :
    Calls Tryz.prog 95 #[.slice (some ⟨blk, off, none⟩) d.size cap, .func (.func 96) #[] #[]] w fun e w' => e = .returned (.tuple #[]) ∧ ∃ d' n os, PermIn 0 d.size d d' ∧ SortedIn (ltOf cmpAm) 0 d.size d' ∧ w' = sortWorldK encAm 2 w blk off n d' os := by
  have eg : ∀ args w, (callFunc 96 args).run Tryz.prog w = .ok (.enter 96 args) w := enters_of Tryz.func96 (by kernel_rfl) rfl
  exact AnyQ.slices_SortFunc Tryz.sortAm 2 Tryz.isAgg57 Tryz.sizeOf57 encAm (fun _ => rfl) (fun x v hv => by simp [encAm] at hv; rcases hv with rfl | rfl <;> rfl) cmpAm swoAm 96 #[] blk off cap d w eg (cmpLaysAm blk off d.size w) hH hblk hsz
end Go.Proofs.YtejgbdclhlolkaaGreatDoor.Q
namespace Go.Proofs.YtejgbdclhlolkaaGreatDoor.Q
open Go.RowKit Go.Lib Go.Sort Go.Shelf Go.WideMaps Go.Maps Go.Proofs.YtejgbdclhlolkaaGreatDoorW.PrintWords Go.Proofs.YtejgbdclhlolkaaGreatDoorW.PrintLast
set_option linter.unusedVariables false
set_option linter.unusedSimpArgs false
def keyL (x : S57) : Lit := .string x.f0.data.toList
structure Gathered (xs : List S57) (D : DataW Unit) (left : Lit → Bool) : Prop where
  apart : (xs.map keyL).Nodup
  here : ∀ x ∈ xs, left (keyL x) = false ∧ Maps.has D (keyL x) = true ∧ ∀ z, D.atKey (keyL x) z = .lit (.int .i64 x.f1)
  all : ∀ s : List UInt8, Maps.has D (.string s) = true → left (.string s) = false → Lit.string s ∈ xs.map keyL
theorem gathered_start (D : DataW Unit) : Gathered [] D (Maps.has D) := ⟨by simp, by simp, fun s h1 h2 => by rw [h1] at h2; cases h2⟩
theorem gathered_step {xs : List S57} {D : DataW Unit} {left : Lit → Bool} (h : Gathered xs D left) (x : S57) (hl : left (keyL x) = true) (hat : ∀ z, D.atKey (keyL x) z = .lit (.int .i64 x.f1)) :
    Gathered (xs ++ [x]) D (fun z => left z && !z.sameKey (keyL x)) := by
  have hnot : keyL x ∉ xs.map keyL := fun hm => by
    obtain ⟨y, hy, e⟩ := List.mem_map.1 hm
    have := (h.here y hy).1
    rw [e, hl] at this
    cases this
  have hself : (keyL x).sameKey (keyL x) = true := WideAt.sameKey_self (by trivial)
  refine ⟨?_, ?_, ?_⟩
  · rw [List.map_append, List.nodup_append]
    refine ⟨h.apart, by simp, fun a ha b hb => ?_⟩
    simp at hb
    subst hb
    exact fun e => hnot (e ▸ ha)
  · intro y hy
    rcases List.mem_append.1 hy with hy | hy
    · obtain ⟨h1, h2⟩ := h.here y hy
      exact ⟨by simp [h1], h2⟩
    · obtain rfl : y = x := by simpa using hy
      refine ⟨by simp [hself], Maps.has_true_of_atKey hat, hat⟩
  · intro s h1 h2
    rw [List.map_append, List.mem_append]
    by_cases e : Lit.string s = keyL x
    · exact .inr (by simp [e])
    · left
      refine h.all s h1 ?_
      rw [sameKey_ne e] at h2
      simpa using h2
theorem flat_get {xs : List S57} {t : Nat} (ht : t < xs.length * 2) : (flatK encAm 2 xs.toArray).toList[t]? = (encAm (xs.getD (t / 2) z57))[t % 2]? := by
  have hj : t / 2 < xs.length := by omega
  have h1 : (flatK encAm 2 xs.toArray).toList[t]? = some ((encAm (xs.toArray[t / 2]!))[t % 2]!) := by
    rw [Array.getElem?_toList]
    simp [flatK, ht]
  have h2 : xs.toArray[t / 2]! = xs.getD (t / 2) z57 := by
    simp [List.getD_eq_getElem?_getD, hj]
  rw [h1, h2]
  have h3 : t % 2 = 0 ∨ t % 2 = 1 := by omega
  rcases h3 with h3 | h3 <;> rw [h3] <;> rfl
theorem flat_len (xs : List S57) : (flatK encAm 2 xs.toArray).toList.length = xs.length * 2 := by simp
theorem inner57 {w : World} {base : Nat} {ok : Nat → Prop} {xs : List S57} {inner : List Value} (h : Reps (k57.M w base ok) 2 xs inner) : inner = (flatK encAm 2 xs.toArray).toList := by
  apply List.ext_getElem?
  intro t
  by_cases ht : t < xs.length * 2
  · have hj : t / 2 < xs.length := by omega
    have hk := k57_openM (h.2 (t / 2) _ (List.getElem?_eq_getElem hj))
    have h1 : inner[t]? = ((inner.drop (t / 2 * 2)).take 2)[t % 2]? := by
      rw [List.getElem?_take_of_lt (by omega), List.getElem?_drop]
      congr 1
      omega
    rw [h1, hk, flat_get ht]
    simp [encAm, List.getD_eq_getElem?_getD, hj]
  · rw [List.getElem?_eq_none (by rw [h.1]; omega), List.getElem?_eq_none (by rw [flat_len]; omega)]
theorem reps57 (w : World) (base : Nat) (ok : Nat → Prop) (xs : List S57) : Reps (k57.M w base ok) 2 xs (flatK encAm 2 xs.toArray).toList := by
  refine ⟨flat_len xs, fun j p hj => ?_⟩
  obtain ⟨hl, rfl⟩ := List.getElem?_eq_some_iff.1 hj
  have e : (((flatK encAm 2 xs.toArray).toList.drop (j * 2)).take 2) = encAm xs[j] := by
    apply List.ext_getElem?
    intro t
    by_cases ht : t < 2
    · rw [List.getElem?_take_of_lt ht, List.getElem?_drop, flat_get (by omega)]
      have h1 : (j * 2 + t) / 2 = j := by omega
      have h2 : (j * 2 + t) % 2 = t := by omega
      rw [h1, h2]
      simp [List.getD_eq_getElem?_getD, hl]
    · rw [List.getElem?_take_eq_none (by omega), List.getElem?_eq_none (by simp [encAm]; omega)]
  rw [e]
  exact k57_mkM w base ok _
theorem holds57 {w : World} {g : Nat} {cur : Array Value} {e : TypeId} {xs : List S57} (hb : w.heap[g]? = some (.cells cur e (0, 0))) (ht : cur.toList.take (xs.length * 2) = (flatK encAm 2 xs.toArray).toList) : HoldsK encAm 2 w g 0 xs.toArray := by
  unfold HoldsK
  intro j hj
  have hj' : j < xs.length * 2 := by simpa using hj
  refine ⟨?_, by simp [World.frozen?, hb]⟩
  have h1 : (cur.toList.take (xs.length * 2))[j]? = (flatK encAm 2 xs.toArray).toList[j]? := by rw [ht]
  rw [List.getElem?_take_of_lt hj'] at h1
  simp only [World.cell?, hb, Nat.zero_add]
  simp only [Option.isSome_none, Bool.false_eq_true, if_false]
  rw [← Array.getElem?_toList, h1, Array.getElem?_toList, Array.getElem?_eq_getElem hj, getElem!_pos _ j hj]
  rfl
theorem heap57 {w : World} {g n : Nat} {os : Array Obj} {cur : Array Value} {e : TypeId} {fr : Nat × Nat} (d : Array S57) (hb : w.heap[g]? = some (.cells cur e fr)) :
    (sortWorldK encAm 2 w g 0 n d os).heap[g]? = some (.cells (putCells id 0 (flatK encAm 2 d) cur) e fr) := by
  have hg : g < w.heap.size := (Array.getElem?_eq_some_iff.1 hb).1
  unfold sortWorldK putRowK
  rw [heap_grow_old _ _ (by simpa using hg)]
  simp [putRow, mapBlock, Sort.ahead, Array.getElem?_modify, hb, onCells]
theorem grown57 {w : World} {g n : Nat} {os : Array Obj} (d : Array S57) : w.grownBy (sortWorldK encAm 2 w g 0 n d os) (some g) := by
  unfold sortWorldK putRowK
  refine ⟨rfl, rfl, rfl, by simp, fun k hk hne => ?_⟩
  rw [heap_grow_old _ _ (by simpa using hk)]
  have : g ≠ k := fun e => hne (by rw [e])
  simp [putRow, mapBlock, Sort.ahead, Array.getElem?_modify, this]
theorem take57 (cur : Array Value) (ts : List S57) (h : ts.length * 2 ≤ cur.size) : (putCells id 0 (flatK encAm 2 ts.toArray) cur).toList.take (ts.length * 2) = (flatK encAm 2 ts.toArray).toList := by
  apply List.ext_getElem?
  intro j
  by_cases hj : j < ts.length * 2
  · rw [List.getElem?_take_of_lt hj, Array.getElem?_toList, Array.getElem?_toList]
    simp [putCells, hj, show j < cur.size by omega]
  · rw [List.getElem?_take_eq_none (by omega), List.getElem?_eq_none (by rw [flat_len]; omega)]
def Rises (L : List S57) : Prop := L.Pairwise fun x y => Op.bytesLess x.f0.data.toList y.f0.data.toList = true
structure Tells (D : DataW Unit) (L : List S57) : Prop where
  tidy : Tidy D
  rises : Rises L
  size : Maps.size D = L.length
  here : ∀ x ∈ L, ∀ z, D.atKey (keyL x) z = .lit (.int .i64 x.f1)
  all : ∀ s : List UInt8, Maps.has D (.string s) = true → Lit.string s ∈ L.map keyL
theorem Rises.names {L : List S57} (h : Rises L) : (L.map keyL).Nodup := by
  refine List.Pairwise.map _ (fun x y hxy e => ?_) h
  unfold keyL at e
  injection e with e
  rw [e, less_irrefl] at hxy
  cases hxy
theorem nodup_of_map {α β : Type} (f : α → β) : ∀ {l : List α}, (l.map f).Nodup → l.Nodup
  | [], _ => List.nodup_nil
  | x :: l, h => by
    rw [List.map_cons, List.nodup_cons] at h
    exact List.nodup_cons.2 ⟨fun hm => h.1 (List.mem_map.2 ⟨x, hm, rfl⟩), nodup_of_map f h.2⟩
theorem ba_ext {a b : ByteArray} (h : a.data.toList = b.data.toList) : a = b := by
  obtain ⟨⟨x⟩⟩ := a
  obtain ⟨⟨y⟩⟩ := b
  simp only at h
  rw [h]
theorem map_inj {α β : Type} {f : α → β} {x y : α} : ∀ {l : List α}, (l.map f).Nodup → x ∈ l → y ∈ l → f x = f y → x = y
  | [], _, hx, _, _ => by simp at hx
  | a :: l, h, hx, hy, e => by
    rw [List.map_cons, List.nodup_cons] at h
    rcases List.mem_cons.1 hx with h1 | h1
    · rcases List.mem_cons.1 hy with h2 | h2
      · rw [h1, h2]
      · exact absurd (List.mem_map.2 ⟨y, h2, by rw [← h1]; exact e.symm⟩) h.1
    · rcases List.mem_cons.1 hy with h2 | h2
      · exact absurd (List.mem_map.2 ⟨x, h1, by rw [← h2]; exact e⟩) h.1
      · exact map_inj h.2 h1 h2 e
theorem s57_ext {x y : S57} (h0 : keyL x = keyL y) (h1 : x.f1 = y.f1) : x = y := by
  unfold keyL at h0
  injection h0 with h0
  cases x; cases y
  simp only at h0 h1
  subst h1
  congr 1
  exact ba_ext h0
theorem same_value {D : DataW Unit} {x y : S57} (hx : ∀ z, D.atKey (keyL x) z = .lit (.int .i64 x.f1)) (hy : ∀ z, D.atKey (keyL y) z = .lit (.int .i64 y.f1)) (e : keyL x = keyL y) : x = y := by
  refine s57_ext e ?_
  have h1 := hx (.map [])
  have h2 := hy (.map [])
  rw [← e, h1] at h2
  injection h2 with h2
  injection h2 with _ h2
theorem gathered_perm {xs L : List S57} {D : DataW Unit} {left : Lit → Bool} (h : Gathered xs D left) (hT : Tells D L) (hl : ∀ kl, left kl = false) : xs.Perm L := by
  refine (List.perm_ext_iff_of_nodup (nodup_of_map keyL h.apart) (nodup_of_map keyL hT.rises.names)).2 (fun x => ⟨fun hx => ?_, fun hx => ?_⟩)
  · obtain ⟨_, h2, h3⟩ := h.here x hx
    obtain ⟨y, hy, e⟩ := List.mem_map.1 (hT.all _ h2)
    rw [same_value h3 (hT.here y hy) e.symm]
    exact hy
  · have h2 := Maps.has_true_of_atKey (hT.here x hx)
    obtain ⟨y, hy, e⟩ := List.mem_map.1 (h.all _ h2 (hl _))
    rw [same_value (hT.here x hx) (h.here y hy).2.2 e.symm]
    exact hy
theorem sorted_is {xs L : List S57} {d' : Array S57} (hp : PermIn 0 xs.toArray.size xs.toArray d') (hs : SortedIn (ltOf cmpAm) 0 xs.toArray.size d') (hL : xs.Perm L) (hr : Rises L) : d'.toList = L := by
  have hsz : d'.size = xs.length := by have := hp.1; simpa using this
  have h1 : d'.toList.Perm xs := by
    have := hp.2.2
    have e1 : d'.extract 0 xs.toArray.size = d' := by
      have : xs.toArray.size = d'.size := by simp [hsz]
      rw [this]
      exact Array.extract_size
    have e2 : xs.toArray.extract 0 xs.toArray.size = xs.toArray := Array.extract_size
    rw [e1, e2] at this
    simpa using this
  refine List.Perm.eq_of_pairwise (le := fun a b => Op.bytesLess b.f0.data.toList a.f0.data.toList = false) ?_ ?_ ?_ (h1.trans hL)
  · intro a b ha hb h3 h4
    have hab : a.f0.data.toList = b.f0.data.toList := by
      have t := less_total a.f0.data.toList b.f0.data.toList
      rw [h3, h4] at t
      simpa using t
    have ha' : a ∈ L := (h1.trans hL).mem_iff.1 ha
    by_cases e : a = b
    · exact e
    · exfalso
      have hk : keyL a = keyL b := by unfold keyL; rw [hab]
      have hn := hr.names
      exact e (map_inj hn ha' hb hk)
  · rw [List.pairwise_iff_getElem]
    intro i j hi hj hij
    have := hs i j (Nat.zero_le _) hij (by simpa [hsz] using hj)
    rw [ltAm] at this
    simpa [getElem!_pos, show i < d'.size by simpa using hi, show j < d'.size by simpa using hj] using this
  · refine hr.imp ?_
    intro a b hab
    cases h3 : Op.bytesLess b.f0.data.toList a.f0.data.toList with
    | false => rfl
    | true => exact absurd ((less_trans _ _ _ hab h3).symm.trans (less_irrefl _)) (by decide)
theorem sort_row {w : World} {base : Nat} {ok : Nat → Prop} {v : Value} {xs L : List S57} (HR : Kd.R k57 57 w base ok v xs) (hp : xs.Perm L) (hr : Rises L) (hl : L.length ≤ 16) :
    Calls Tryz.prog 95 #[v, .func (.func 96) #[] #[]] w fun e w' => e = .returned (.tuple #[]) ∧ Kd.R k57 57 w' base ok v L ∧ w.grownBy w' v.ownBlock := by
  obtain ⟨h0, inner, ho, hi⟩ := HR
  have hlen := hp.length_eq
  rcases ho.2 with ⟨rfl, hn⟩ | ⟨g, cap, cur, rfl, hg, hb, h1, h2, h3, h4⟩
  · obtain rfl := List.eq_nil_of_length_eq_zero hn
    obtain rfl : L = [] := List.eq_nil_of_length_eq_zero (by simpa using hlen.symm)
    refine Calls.mono (AnyF.slices_SortFunc_none Tryz.sortAm none 0 (.func (.func 96) #[] #[]) w) ?_
    rintro e w' ⟨rfl, rfl⟩
    exact ⟨rfl, Kd.R_nil _ _ _ _ _, ⟨rfl, rfl, rfl, Nat.le_refl _, fun _ _ _ => rfl⟩⟩
  · have hin := inner57 hi
    have hH := holds57 hb (h4.trans hin)
    have hlt : g < w.heap.size := (Array.getElem?_eq_some_iff.1 hb).1
    have hc := sort_calls g 0 cap xs.toArray w hH hlt (by simp; omega)
    simp only [List.size_toArray] at hc
    refine hc.mono ?_
    rintro e w' ⟨rfl, d', n, os, hP, hS, rfl⟩
    have hd := sorted_is (by simpa using hP) (by simpa using hS) hp hr
    have hsz : d'.size = L.length := by rw [← hd]; simp
    have hda : d' = L.toArray := by rw [← hd]
    refine ⟨rfl, ⟨h0, (flatK encAm 2 L.toArray).toList, ⟨flat_len L, .inr ⟨g, cap, _, by rw [hlen], hg, heap57 d' hb, by omega, h2, by simp [putCells, h3], ?_⟩⟩, reps57 _ _ _ L⟩, grown57 d'⟩
    rw [hda]
    exact take57 cur L (by rw [h3]; show L.length * 2 ≤ cap * 2; omega)
theorem law9 : Keyed Tryz.prog 9 := string_keyed Tryz.underlying9
theorem inv9 (key : Value) (kl : Lit) (h : keyOf Tryz.prog 9 key = some kl) : ∃ x, key = Value.string x := by
  cases key <;> simp [keyOf, Tryz.underlying9, mapKey] at h
  exact ⟨_, rfl⟩
theorem inv2 (v : Value) (y : DataW Unit × List MemPlace) (h : plainElem (H := Unit) Tryz.prog 2 v = some y) : ∃ c, v = Value.int .i64 c := by
  obtain ⟨c, rfl, _⟩ := plainElem_int_inv Tryz.underlying2 h
  exact ⟨c, rfl⟩
theorem key9 {x : ByteArray} {kl : Lit} (h : keyOf Tryz.prog 9 (.string x) = some kl) : kl = .string x.data.toList := by
  simp [keyOf, Tryz.underlying9, mapKey] at h
  exact h.2.symm
theorem elem2 {c : Int} {y : DataW Unit × List MemPlace} (h : plainElem (H := Unit) Tryz.prog 2 (.int .i64 c) = some y) : y.1 = .lit (.int .i64 c) := by
  obtain ⟨c', e, rfl, _⟩ := plainElem_int_inv Tryz.underlying2 h
  cases e
  rfl
def quant_listed.f (L : List S57) : List S57 × Int := if L.length > 16 then ([], 23) else (L, 0)
set_option maxHeartbeats 4000000 in
set_option maxRecDepth 100000 in
theorem quant_listed.calls (b n : Nat) (D : DataW Unit) (L : List S57) (r1 : List S57) (r2 : Int) (w : World) (hown : w.ownsMap Tryz.prog 9 (plainElem (H := Unit) Tryz.prog 2) b n D) (hT : Tells D L) (h : quant_listed.f L = (r1, r2)) :
    Calls Tryz.prog 74 #[.map (some b)] w fun e w' => ∃ v0_ : Value, e = .returned (.tuple #[v0_, .int .i64 r2]) ∧ Kd.R k57 57 w' w.heap.size (fun _ => True) v0_ r1 ∧ Below w.heap.size w w' := by
  have hu57 := Tryz.underlying57
  have HT := Lib.hid hT
  have HOWN := Aside0.mk hown
  have hsize := hT.size
  unfold quant_listed.f at h
  by_cases h16 : L.length > 16
  · rw [if_pos h16] at h
    obtain ⟨rfl, rfl⟩ := Prod.mk.inj h
    clear hT hown h
    have hlt : decide ((Maps.size D : Int) > 16) = true := by rw [hsize]; simp; omega
    have HLT := Lib.hid hlt
    clear hlt
    go_enter Tryz.func74, Tryz.ntmps74
    go_wp2_with (first | (at_len; refine wpList_len_own _ rfl _ 98 rfl 9 2 Tryz.underlying98 _ b n D rfl HOWN.out ?_))
    go_ret2
    exact ⟨_, rfl, Kd.R_nil _ _ _ _ _, Below.refl _ _⟩
  · rw [if_neg h16] at h
    obtain ⟨rfl, rfl⟩ := Prod.mk.inj h
    have hb := hown.lt
    have hgt : ¬ ((Maps.size D : Int) > 16) := by rw [hsize]; omega
    clear hT hown h
    go_enter Tryz.func74, Tryz.ntmps74
    go_wp2_with (first
      | (at_len; refine wpList_len_own _ rfl _ 98 rfl 9 2 Tryz.underlying98 _ b n D rfl HOWN.out ?_)
      | (at_range; refine wpList_range_own _ rfl _ 98 rfl 9 2 law9 Tryz.underlying98 _ b n D rfl HOWN.out ?_; intro w0 hrg0 hg0 hs0)
      | go_in)
    have hbl0 : Below w.heap.size w w0 := ⟨hg0.os, hg0.tape, hg0.output, hg0.size, fun k hk => hg0.block k hk (by simp)⟩
    have HB0 := Aside0.mk hbl0
    clear hg0 hbl0
    have hsD : Maps.size D ≤ 16 := by omega
    go_loopg [4, 5, 6] (Maps.size D) (fun g v4 v5 v6 wr => ∃ (left : Lit → Bool) (cnt : Nat) (xs : List S57), Aside0 (wr.ranges Tryz.prog 9 (plainElem (H := Unit) Tryz.prog 2) b w.heap.size n D left cnt) ∧ cnt ≤ g ∧ xs.length + cnt ≤ Maps.size D ∧ Aside0 (Gathered xs D left) ∧ Aside0 (Kd.R k57 57 wr w.heap.size (fun k => k ≠ w.heap.size ∧ k ≠ b) v4 xs) ∧ Aside0 (Below w.heap.size w wr))
    case atStart => exact ⟨_, _, [], ⟨hrg0⟩, by omega, by simp, ⟨gathered_start D⟩, ⟨Kd.R_nil _ _ _ _ _⟩, HB0⟩
    case round =>
      clear HB0 hrg0 hs0
      obtain ⟨left, cnt, xs, HRG, hcg, hxc, HGA, HR, HB⟩ := hrel
      go_wp2_with (first
        | (at_next; refine wpList_next_ranges _ rfl _ rfl 9 law9 (plainElem (H := Unit) Tryz.prog 2) Value.string (Value.int .i64) inv9 inv2 b w.heap.size n D left cnt rfl HRG.out ?_ ?_)
        | go_in)
      · intro hc0 hl0
        have hperm := gathered_perm HGA.out HT.out hl0
        have hLs : L.length ≤ 16 := by omega
        have HSORT := Lib.hid (sort_row HR.out hperm HT.out.rises hLs)
        go_wp2_with (go_at_call 95; refine HSORT.out.mono ?_; rintro e w4 ⟨rfl, ho4, hg4⟩; have HO4 := Aside0.mk ho4; have HG4 := Aside0.mk hg4; clear ho4 hg4)
        go_ret2
        exact ⟨_, rfl, Kd.R_mono HO4.out (fun _ _ => trivial), HB.out.grown HG4.out HB.out.size (fun j hj => own_base HR.out.2.choose_spec.1 j hj)⟩
      · intro x c kl yd yp w1 cnt1 hkey hlk hv hat hrg1 hlt hg1 hs1 hen
        obtain rfl := key9 hkey
        rw [show yd = _ from elem2 hv] at hat
        have HGA1 := Lib.hid (gathered_step HGA.out ⟨x, c⟩ hlk hat)
        have hbr := HRG.out.ne
        have HR1 := Aside0.mk (Kd.R_grown HR.out hg1 (fun k hk e => hk.1 (by injection e)))
        have HB1 := Aside0.mk (HB.out.grown hg1 HB.out.size (fun j hj => by cases hj; exact Nat.le_refl _))
        have HRG1 := Aside0.mk hrg1
        have hszb := HRG.out.lt
        have hbs := HB.out.size
        have HS1 := Lib.hid hs1
        obtain ⟨g, rfl⟩ : ∃ g, gk = g + 1 := ⟨gk - 1, by omega⟩
        clear hkey hlk hv hat hrg1 hg1 hs1
        go_wp2_with (first
          | ((with_reducible refine gate_builtin (b := .append) (xs := #[.tmp 17, .tmp 21]) rfl ?_); at_builtin; refine Kd.R_append k57 (w0 := w) w.heap.size rfl (.tmp 17) (.tmp 21) 46 57 (.agg #[(.string ⟨#[]⟩), (.int .i64 0)]) 24 rfl Tryz.underlying46 info57 rfl (by decide) (by omega) u4 xs ⟨x, c⟩ [.string x, .int .i64 c] (fun k => k ≠ w.heap.size ∧ k ≠ b) (fun _ => False) rfl rfl ?aP (fun _ hk => hk.elim) ?aF ?aO ?aB ?aS ?aL ?_; (case aP => exact k57_mkM _ _ _ ⟨x, c⟩); (case aB => exact HB1.out); (case aF => exact (fun k hk => by have := HS1.out; constructor <;> omega)); (case aO => exact HR1.out); (case aS => exact HB1.out.size); (case aL => omega);
                intro v2 w2 ho hb2 hg2 hat2; have HO2 := Aside0.mk ho; have HB2 := Aside0.mk hb2; clear ho hb2)
          | go_in)
        have HRG2 := Aside0.mk (HRG1.out.kept hg2 (fun e => (HR1.out.1 b e.symm).2 rfl) (fun e => (HR1.out.1 _ e.symm).1 rfl))
        go_roundg g
        case measure => omega
        case rel => exact ⟨_, cnt1, xs ++ [⟨x, c⟩], HRG2, by omega, by simp; omega, ⟨HGA1.out⟩, HO2, HB2⟩
end Go.Proofs.YtejgbdclhlolkaaGreatDoor.Q
namespace Go.Proofs.YtejgbdclhlolkaaGreatDoor.Q
open Go.RowKit Go.Lib Go.WideMaps Go.Maps Go.Proofs.YtejgbdclhlolkaaGreatDoorW.PrintWords Go.Proofs.YtejgbdclhlolkaaGreatDoorW.PrintLast
set_option linter.unusedVariables false
set_option linter.unusedSimpArgs false
def nless (x y : ByteArray) : Bool := Op.bytesLess x.data.toList y.data.toList
theorem nless_irrefl (x : ByteArray) : nless x x = false := less_irrefl _
theorem nless_trans {x y z : ByteArray} (h : nless x y = true) (k : nless y z = true) : nless x z = true := less_trans _ _ _ h k
theorem nless_total {x y : ByteArray} (h : nless y x = false) (hne : x ≠ y) : nless x y = true := by
  unfold nless at *
  have t := less_total x.data.toList y.data.toList
  rw [h, Bool.not_false, Bool.or_eq_true] at t
  rcases t with t | t
  · exact t
  · exact absurd (ba_ext (by simpa using t)) hne
def valOf : List S57 → ByteArray → Int
  | [], _ => 0
  | a :: l, x => if a.f0 = x then a.f1 else valOf l x
def insS : List S57 → ByteArray → Int → List S57
  | [], x, v => [⟨x, v⟩]
  | a :: l, x, v => if a.f0 = x then ⟨x, v⟩ :: l else if nless x a.f0 = true then ⟨x, v⟩ :: a :: l else a :: insS l x v
theorem rises_cons {a : S57} {l : List S57} : Rises (a :: l) ↔ (∀ y ∈ l, nless a.f0 y.f0 = true) ∧ Rises l := List.pairwise_cons
theorem mem_ins {x : ByteArray} {v : Int} {y : S57} : ∀ {L : List S57}, Rises L → (y ∈ insS L x v ↔ y = ⟨x, v⟩ ∨ (y ∈ L ∧ y.f0 ≠ x))
  | [], _ => by simp [insS]
  | a :: l, h => by
    obtain ⟨h1, h2⟩ := rises_cons.1 h
    unfold insS
    by_cases e : a.f0 = x
    · rw [if_pos e]
      subst e
      simp only [List.mem_cons]
      constructor
      · rintro (h3 | h3)
        · exact .inl h3
        · exact .inr ⟨.inr h3, fun e => by have := h1 y h3; rw [e, nless_irrefl] at this; cases this⟩
      · rintro (h3 | ⟨h3 | h3, h4⟩)
        · exact .inl h3
        · rw [h3] at h4; exact absurd rfl h4
        · exact .inr h3
    · rw [if_neg e]
      by_cases hl : nless x a.f0 = true
      · rw [if_pos hl]
        simp only [List.mem_cons]
        constructor
        · rintro (h3 | h3 | h3)
          · exact .inl h3
          · exact .inr ⟨.inl h3, fun e' => e (by rw [← h3]; exact e')⟩
          · exact .inr ⟨.inr h3, fun e' => by have := nless_trans hl (h1 y h3); rw [e', nless_irrefl] at this; cases this⟩
        · rintro (h3 | ⟨h3 | h3, h4⟩)
          · exact .inl h3
          · exact .inr (.inl h3)
          · exact .inr (.inr h3)
      · rw [if_neg hl]
        simp only [List.mem_cons, mem_ins (x := x) (v := v) (y := y) h2]
        constructor
        · rintro (h3 | h3 | ⟨h3, h4⟩)
          · exact .inr ⟨.inl h3, fun e' => e (by rw [← h3]; exact e')⟩
          · exact .inl h3
          · exact .inr ⟨.inr h3, h4⟩
        · rintro (h3 | ⟨h3 | h3, h4⟩)
          · exact .inr (.inl h3)
          · exact .inl h3
          · exact .inr (.inr ⟨h3, h4⟩)
theorem rises_ins {x : ByteArray} {v : Int} : ∀ {L : List S57}, Rises L → Rises (insS L x v)
  | [], _ => by simp [insS, Rises]
  | a :: l, h => by
    obtain ⟨h1, h2⟩ := rises_cons.1 h
    unfold insS
    by_cases e : a.f0 = x
    · rw [if_pos e]
      exact rises_cons.2 ⟨fun y hy => by show nless x y.f0 = true; rw [← e]; exact h1 y hy, h2⟩
    · rw [if_neg e]
      by_cases hl : nless x a.f0 = true
      · rw [if_pos hl]
        refine rises_cons.2 ⟨fun y hy => ?_, h⟩
        rcases List.mem_cons.1 hy with h3 | h3
        · rw [h3]; exact hl
        · exact nless_trans hl (h1 y h3)
      · rw [if_neg hl]
        refine rises_cons.2 ⟨fun y hy => ?_, rises_ins h2⟩
        rcases (mem_ins h2).1 hy with h3 | ⟨h3, _⟩
        · rw [h3]
          exact nless_total (by simpa using hl) e
        · exact h1 y h3
def named (L : List S57) (x : ByteArray) : Bool := L.any fun y => decide (y.f0 = x)
theorem length_ins {x : ByteArray} {v : Int} : ∀ {L : List S57}, Rises L → (insS L x v).length = if named L x = true then L.length else L.length + 1
  | [], _ => by simp [insS, named]
  | a :: l, h => by
    obtain ⟨h1, h2⟩ := rises_cons.1 h
    unfold insS
    by_cases e : a.f0 = x
    · rw [if_pos e, if_pos (by simp [named, e])]
      simp
    · rw [if_neg e]
      by_cases hl : nless x a.f0 = true
      · rw [if_pos hl, if_neg]
        · simp
        · simp only [named, List.any_eq_true, List.mem_cons, decide_eq_true_eq]
          rintro ⟨y, h3 | h3, h4⟩
          · rw [h3] at h4; exact e h4
          · have := nless_trans hl (h1 y h3); rw [h4, nless_irrefl] at this; cases this
      · rw [if_neg hl, List.length_cons, length_ins h2]
        have hn : named (a :: l) x = named l x := by simp [named, e]
        rw [hn]
        split <;> simp
theorem val_mem {y : S57} : ∀ {L : List S57}, Rises L → y ∈ L → valOf L y.f0 = y.f1
  | [], _, hy => by simp at hy
  | a :: l, h, hy => by
    obtain ⟨h1, h2⟩ := rises_cons.1 h
    unfold valOf
    rcases List.mem_cons.1 hy with h3 | h3
    · rw [h3, if_pos rfl]
    · rw [if_neg (fun e => by have := h1 y h3; rw [e, nless_irrefl] at this; cases this), val_mem h2 h3]
theorem val_none {x : ByteArray} : ∀ {L : List S57}, (∀ y ∈ L, y.f0 ≠ x) → valOf L x = 0
  | [], _ => rfl
  | a :: l, h => by
    unfold valOf
    rw [if_neg (h a (by simp)), val_none (fun y hy => h y (by simp [hy]))]
theorem keyL_inj {y : S57} {s : ByteArray} (h : keyL y = .string s.data.toList) : y.f0 = s := by
  unfold keyL at h
  injection h with h
  exact ba_ext h
theorem tells_nil : Tells (.map []) [] := ⟨tidy_empty, List.Pairwise.nil, rfl, by simp, fun s h => by simp [Maps.has] at h⟩
theorem Tells.named {D : DataW Unit} {L : List S57} (h : Tells D L) (x : ByteArray) : Maps.has D (.string x.data.toList) = named L x := by
  cases hn : Q.named L x with
  | true =>
    simp only [Q.named, List.any_eq_true, decide_eq_true_eq] at hn
    obtain ⟨y, hy, rfl⟩ := hn
    exact Maps.has_true_of_atKey (h.here y hy)
  | false =>
    cases hh : Maps.has D (.string x.data.toList) with
    | false => rfl
    | true =>
      obtain ⟨y, hy, e⟩ := List.mem_map.1 (h.all _ hh)
      have := keyL_inj e
      simp only [Q.named, List.any_eq_false, decide_eq_true_eq] at hn
      exact absurd this (hn y hy)
theorem Tells.at {D : DataW Unit} {L : List S57} (h : Tells D L) (x : ByteArray) : D.atKey (.string x.data.toList) (.lit (.int .i64 0)) = .lit (.int .i64 (valOf L x)) := by
  cases hn : Q.named L x with
  | true =>
    simp only [Q.named, List.any_eq_true, decide_eq_true_eq] at hn
    obtain ⟨y, hy, rfl⟩ := hn
    rw [val_mem h.rises hy]
    exact h.here y hy _
  | false =>
    have h1 := h.named x
    rw [hn] at h1
    rw [atKey_of_not_has h1, val_none]
    intro y hy e
    simp only [Q.named, List.any_eq_false, decide_eq_true_eq] at hn
    exact hn y hy e
theorem Tells.put {D : DataW Unit} {L : List S57} (h : Tells D L) (x : ByteArray) (v : Int) : Tells (D.put (.string x.data.toList) (.lit (.int .i64 v))) (insS L x v) := by
  refine ⟨h.tidy.put (by trivial) _, rises_ins h.rises, ?_, fun y hy z => ?_, fun s hs => ?_⟩
  · rw [size_put h.tidy, h.named x, length_ins h.rises, h.size]
  · rcases (mem_ins h.rises).1 hy with rfl | ⟨h1, h2⟩
    · exact atKey_put_same h.tidy.isMap (by trivial) _ z
    · rw [atKey_put_other (fun e => h2 (keyL_inj e))]
      exact h.here y h1 z
  · by_cases e : (Lit.string s) = .string x.data.toList
    · rw [e]
      exact List.mem_map.2 ⟨⟨x, v⟩, (mem_ins h.rises).2 (.inl rfl), rfl⟩
    · rw [has_put_other e] at hs
      obtain ⟨y, hy, he⟩ := List.mem_map.1 (h.all s hs)
      refine List.mem_map.2 ⟨y, (mem_ins h.rises).2 (.inr ⟨hy, fun e' => e ?_⟩), he⟩
      rw [← he]
      unfold keyL
      rw [e']
def addP (a v : Int) : Int × Int := if a < 0 ∨ v < 0 then (0, 1) else if a > wrap64 (9223372036854775807 - v) then (0, 7) else (wrap64 (a + v), 0)
theorem add_is (a v : Int) : quant_Add.f 1 a v = some (addP a v) := by
  unfold quant_Add.f addP quant_Add.j0
  by_cases h1 : a < 0
  · simp [h1]
  · by_cases h2 : v < 0
    · simp [h1, h2]
    · simp only [h1, h2, if_false, decide_false, Bool.false_eq_true, or_self]
      split <;> rfl
def sumGo : List S57 → List S57 → Except Int (List S57)
  | L, [] => .ok L
  | L, a :: r => if (addP (valOf L a.f0) a.f1).2 = 0 then sumGo (insS L a.f0 (addP (valOf L a.f0) a.f1).1) r else .error (addP (valOf L a.f0) a.f1).2
def quant_summed.f (ls : List (List S57)) : List S57 × Int :=
  match sumGo [] ls.flatten with
  | .error e => ([], e)
  | .ok L => quant_listed.f L
theorem zero2 (w : World) : (zeroValue 2).run Tryz.prog w = .ok (.int .i64 0) w := by kernel_rfl
theorem key48 {s : ByteArray} (h : s.size ≤ 48) : keyOf Tryz.prog 9 (.string s) = some (.string s.data.toList) := keyOf_string_mk Tryz.underlying9 (by unfold maxLen; omega)
theorem lookup2 (w : World) {ops : Array Oper} {rest : List Oper} {o : Oper} {a : Act} {Q : Exit → Act → World → Prop}
    (hg : o.guard = none) (m x : Operand) (hop : o.op = Op.lookup 98 m x false) (b n : Nat) (D : DataW Unit) (L : List S57) (hT : Tells D L)
    (hm : a.eval m = .map (some b)) (hown : w.ownsMap Tryz.prog 9 (plainElem (H := Unit) Tryz.prog 2) b n D) (s : ByteArray) (hs : s.size ≤ 48) (hx : a.eval x = .string s)
    (hK : wpList Tryz.prog ops Q rest (a.put o.dst (.int .i64 (valOf L s))) w) :
    wpList Tryz.prog ops Q (o :: rest) a w := by
  refine wpList_lookup_own_int w hg m x 98 hop 9 2 .i64 law9 Tryz.underlying98 Tryz.underlying2 (zero2 _) b n D hm hown _ _ hx (key48 hs) (fun c hc _ => ?_)
  rw [hT.at] at hc
  injection hc with h1
  injection h1 with _ h2
  subst h2
  exact hK
theorem own_drewN {w : World} {b n : Nat} {D : DataW Unit} (h : w.ownsMap Tryz.prog 9 (plainElem (H := Unit) Tryz.prog 2) b n D) (k : Nat) : (w.drewN k).ownsMap Tryz.prog 9 (plainElem (H := Unit) Tryz.prog 2) b n D := h
theorem ok_wf {a v s : Int} (h : addP a v = (s, 0)) : (Lit.int .i64 s).wf = true := by
  unfold addP at h
  split at h
  · cases h
  · split at h
    · cases h
    · obtain ⟨rfl, _⟩ := Prod.mk.inj h
      exact RowKit.wrap64_wf _
theorem flat_rest (ls : List (List S57)) (i : Nat) (h : i < ls.length) : (ls.drop i).flatten = rd_L3 ls (i : Int) ++ (ls.drop (i + 1)).flatten := by
  rw [List.drop_eq_getElem_cons h, List.flatten_cons]
  simp [rd_L3, List.getD_eq_getElem?_getD, h]
theorem item_rest (l : List S57) (j : Nat) (h : j < l.length) : l.drop j = rd_T57 l (j : Int) :: l.drop (j + 1) := by
  rw [List.drop_eq_getElem_cons h]
  simp [rd_T57, List.getD_eq_getElem?_getD, h]
set_option maxHeartbeats 8000000 in
set_option maxRecDepth 100000 in
theorem quant_summed.calls (A0 : Option Addr) (c0 : Nat) (ls : List (List S57)) (r1 : List S57) (r2 : Int) (w : World) (hr0 : Kd.C (Kd.slice 57 k57) w A0 ls.length ls) (hc0 : ls.length ≤ c0)
    (h48 : ∀ l ∈ ls, ∀ x ∈ l, x.f0.size ≤ 48) (hlen : ls.flatten.length ≤ 9223372036854775807) (h : quant_summed.f ls = (r1, r2)) :
    Calls Tryz.prog 72 #[.slice A0 ls.length c0] w fun e w' => ∃ v0_ : Value, e = .returned (.tuple #[v0_, .int .i64 r2]) ∧ Kd.R k57 57 w' w.heap.size (fun _ => True) v0_ r1 ∧ Below w.heap.size w w' := by
  have hu57 := Tryz.underlying57
  have hmm := @run_makeMap Tryz.prog
  have HR0 := Aside0.mk hr0
  have HC0 := Aside0.mk hc0
  have hll := hr0.2.1
  have HF := Lib.hid h
  have H48 := Lib.hid h48
  clear hr0 hc0 h h48
  obtain ⟨gm, hgm⟩ : ∃ gm, gm = w.heap.size := ⟨_, rfl⟩
  have HGM := Lib.hid hgm
  have HOWN0 := Aside0.mk (World.ownsMap_made w Tryz.prog 9 (plainElem (H := Unit) Tryz.prog 2))
  have HB0 := Aside0.mk ((Below.refl w.heap.size w).alloc (Nat.le_refl _) (.map #[] 0))
  go_enter Tryz.func72, Tryz.ntmps72
  go_wp2
  rw [← hgm] at HOWN0
  rw [← hgm]
  clear hgm
  go_loopg [6, 8, 9, 10, 14] ls.length (fun g v6 v8 v9 v10 v14 wr => ∃ (i n : Nat) (D : DataW Unit) (L : List S57), v14 = .int .i64 i ∧ i ≤ ls.length ∧ ls.length ≤ i + g ∧ n + (ls.drop i).flatten.length ≤ 9223372036854775807 ∧ Aside0 (wr.ownsMap Tryz.prog 9 (plainElem (H := Unit) Tryz.prog 2) gm n D) ∧ Aside0 (Tells D L) ∧ Aside0 (sumGo [] ls.flatten = sumGo L (ls.drop i).flatten) ∧ Aside0 (Below w.heap.size w wr))
  case atStart => exact ⟨0, 0, _, [], rfl, by omega, by omega, by simpa using hlen, HOWN0, ⟨tells_nil⟩, ⟨rfl⟩, HB0⟩
  case round =>
    clear HOWN0 HB0 hlen
    obtain ⟨i, n, D, L, rfl, hin, hig, hnt, hown, hT, hgo, hbw⟩ := hrel
    have HOWN := hown
    have HT := hT
    by_cases hlt : i < ls.length
    · cases gk with
      | zero => omega
      | succ g =>
        obtain ⟨ad, A1, c1, eA, hx0, hl1, hi1⟩ := at_L3 HR0.out (i : Int) (by omega) (by omega)
        cases eA
        rw [Int.toNat_natCast] at hx0
        replace hx0 := (hbw.out.cell (World.block_lt_of_cell? w _ hx0)).trans hx0
        have hfl := flat_rest ls i hlt
        rw [hfl, List.length_append] at hnt
        have HGO := Lib.hid (show sumGo [] ls.flatten = sumGo L (rd_L3 ls (i : Int) ++ (ls.drop (i + 1)).flatten) by rw [← hfl]; exact hgo.out)
        have H48i : Hid (∀ x ∈ rd_L3 ls (i : Int), x.f0.size ≤ 48) := Lib.hid (H48.out _ (by simp [rd_L3, List.getD_eq_getElem?_getD, hlt]))
        have HR1 := Aside0.mk hi1
        have HC1 := Aside0.mk hl1
        have hli := hi1.2.1
        clear hfl hgo hi1 hl1
        generalize rd_L3 ls (i : Int) = l at *
        obtain ⟨R, hR⟩ : ∃ R, R = (ls.drop (i + 1)).flatten := ⟨_, rfl⟩
        rw [← hR] at hnt HGO
        have HRR := Lib.hid hR
        clear hR hT hown
        rename Aside0 (Below w.heap.size w wr) => HBW
        go_wp2
        go_loopg [8, 9, 10, 20] l.length (fun g2 v8 v9 v10 v20 wq => ∃ (j m : Nat) (E : DataW Unit) (M : List S57), v20 = .int .i64 j ∧ j ≤ l.length ∧ l.length ≤ j + g2 ∧ m + (l.length - j + R.length) ≤ 9223372036854775807 ∧ Aside0 (wq.ownsMap Tryz.prog 9 (plainElem (H := Unit) Tryz.prog 2) gm m E) ∧ Aside0 (Tells E M) ∧ Aside0 (sumGo [] ls.flatten = sumGo M (l.drop j ++ R)) ∧ Aside0 (Below w.heap.size w wq))
        case atStart => exact ⟨0, n, D, L, rfl, by omega, by omega, by omega, HOWN, HT, ⟨HGO.out⟩, HBW⟩
        case round =>
          clear HOWN HT HGO
          obtain ⟨j, m, E, M, rfl, hjn, hjg, hmt, HOWN, HT, HGO, HBQ⟩ := hrel
          by_cases hjl : j < l.length
          · cases gk with
            | zero => omega
            | succ g2 =>
              obtain ⟨ad2, eA2, hy0, hy1⟩ := at_T57 HR1.out (j : Int) (by omega) (by omega)
              cases eA2
              rw [Int.toNat_natCast] at hy0 hy1
              replace hy0 := (HBQ.out.cell (World.block_lt_of_cell? w _ hy0)).trans hy0
              replace hy1 := (HBQ.out.cell (World.block_lt_of_cell? w _ hy1)).trans hy1
              have h48x := H48i.out (rd_T57 l (j : Int)) (by rw [rd_T57, Int.toNat_natCast, List.getD_eq_getElem?_getD, List.getElem?_eq_getElem hjl]; exact List.getElem_mem hjl)
              have HGO2 := Lib.hid (show sumGo [] ls.flatten = sumGo M (rd_T57 l (j : Int) :: (l.drop (j + 1) ++ R)) by rw [← List.cons_append, ← item_rest l j hjl]; exact HGO.out)
              clear HGO
              have hxe : (⟨(rd_T57 l (j : Int)).f0, (rd_T57 l (j : Int)).f1⟩ : S57) = rd_T57 l (j : Int) := rfl
              rw [← hxe] at HGO2
              generalize (rd_T57 l (j : Int)).f0 = xs at *
              generalize (rd_T57 l (j : Int)).f1 = xv at *
              clear hxe
              have HOWN2 := Aside0.mk (HOWN.out.alloc (.cells #[.string xs, .int .i64 xv] 57))
              have HBQ2 := Aside0.mk (HBQ.out.alloc HBQ.out.size (.cells #[.string xs, .int .i64 xv] 57))
              obtain ⟨s, er, hse⟩ : ∃ s er, addP (valOf M xs) xv = (s, er) := ⟨_, _, rfl⟩
              have HADD := Lib.hid (show quant_Add.f 1 (valOf M xs) xv = some (s, er) by rw [add_is, hse])
              have HSE := Lib.hid hse
              clear hse
              by_cases her : er = 0
              · subst her
                have HGO3 := Lib.hid (show sumGo [] ls.flatten = sumGo (insS M xs s) (l.drop (j + 1) ++ R) by rw [HGO2.out, sumGo]; simp only [HSE.out, if_true])
                have HT3 := Aside0.mk (HT.out.put xs s)
                clear HGO2
                go_wp2_with (first
                  | (at_lookup; refine lookup2 _ rfl _ _ rfl gm m E M HT.out rfl HOWN2.out xs h48x rfl ?_)
                  | (go_at_call 26; refine (quant_Add.calls 1 (valOf M xs) xv s 0 _ HADD.out).mono ?_; rintro e w4 ⟨rfl, ⟨nd, rfl⟩⟩; have HOWN4 := Aside0.mk (own_drewN HOWN2.out nd))
                  | (at_mapUpdate; refine wpList_mapUpdate_own _ rfl _ _ _ 98 rfl 9 2 law9 Tryz.underlying98 _ gm m E rfl HOWN4.out (by unfold maxLen; omega) _ _ _ rfl rfl (key48 h48x) _ [] (plainElem_int Tryz.underlying2 (ok_wf HSE.out)) ?_; intro w5 hown5 hgrow5)
                  | go_in)
                have HB5 := Aside0.mk ((pw_below_drewN HBQ2.out nd).grown hgrow5 HBQ2.out.size (fun k hk => by cases hk; rw [HGM.out]; exact Nat.le_refl _))
                have HOWN5 := Aside0.mk hown5
                clear hown5 hgrow5
                go_roundg g2
                case measure => omega
                case rel => exact ⟨j + 1, m + 1, _, _, by go_num, by omega, by omega, by omega, HOWN5, HT3, ⟨HGO3.out⟩, HB5⟩
              · have HRES := Lib.hid (show ([], er) = (r1, r2) by
                  have h1 := HF.out
                  unfold quant_summed.f at h1
                  rw [HGO2.out, sumGo] at h1
                  simp only [HSE.out, if_neg her] at h1
                  exact h1)
                have hrr := HRES.out
                obtain ⟨e1, e2⟩ := Prod.mk.inj hrr
                have HR1E := Lib.hid e1
                have HR2E := Lib.hid e2
                clear hrr e1 e2 HGO2
                have hne : (er != 0) = true := bne_iff_ne.2 her
                go_wp2_with (first
                  | (at_lookup; refine lookup2 _ rfl _ _ rfl gm m E M HT.out rfl HOWN2.out xs h48x rfl ?_)
                  | (go_at_call 26; refine (quant_Add.calls 1 (valOf M xs) xv s er _ HADD.out).mono ?_; rintro e w4 ⟨rfl, ⟨nd, rfl⟩⟩)
                  | go_in)
                go_ret2
                refine ⟨.slice none 0 0, ?_, by rw [← HR1E.out]; exact Kd.R_nil _ _ _ _ _, pw_below_drewN HBQ2.out nd⟩
                rw [← HR2E.out]
                rfl
          · obtain rfl : j = l.length := by omega
            have HGO2 := Lib.hid (show sumGo [] ls.flatten = sumGo M (ls.drop (i + 1)).flatten by rw [HGO.out, List.drop_length, List.nil_append, HRR.out])
            clear HGO
            go_wp2
            go_roundg g
            case measure => omega
            case rel => exact ⟨i + 1, m, E, M, by go_num, by omega, by omega, by rw [← HRR.out]; omega, HOWN, HT, ⟨HGO2.out⟩, HBQ⟩
    · obtain rfl : i = ls.length := by omega
      have hgo2 := hgo.out
      rw [List.drop_length, List.flatten_nil, sumGo] at hgo2
      have HQ := Lib.hid (show quant_listed.f L = (r1, r2) by have := HF.out; unfold quant_summed.f at this; rw [hgo2] at this; exact this)
      clear hgo2 hgo
      go_wp2_with (go_at_call 74; refine (quant_listed.calls gm n D L r1 r2 _ hown.out hT.out HQ.out).mono ?_; rintro e w4 ⟨v4, rfl, ho4, hb4⟩; have HO4 := Aside0.mk (Kd.R_lower ho4 hbw.out.size); have HB4 := Aside0.mk (below_step hbw.out hb4); clear ho4 hb4)
      go_ret2
      exact ⟨_, rfl, HO4.out, HB4.out⟩
end Go.Proofs.YtejgbdclhlolkaaGreatDoor.Q
namespace Go.Proofs.YtejgbdclhlolkaaGreatDoor.Q
open Go.RowKit Go.Lib Go.Proofs.YtejgbdclhlolkaaGreatDoorW.PrintWords Go.Proofs.YtejgbdclhlolkaaGreatDoorW.PrintLast
set_option linter.unusedVariables false
set_option linter.unusedSimpArgs false
def sumOK (ls : List (List S57)) : Bool := (ls.all fun l => l.all fun x => decide (x.f0.size ≤ 48)) && decide (ls.flatten.length ≤ 9223372036854775807)
theorem sumOK_names {ls : List (List S57)} (h : sumOK ls = true) : ∀ l ∈ ls, ∀ x ∈ l, x.f0.size ≤ 48 := by
  unfold sumOK at h
  simp only [Bool.and_eq_true, List.all_eq_true, decide_eq_true_eq] at h
  exact h.1
theorem sumOK_len {ls : List (List S57)} (h : sumOK ls = true) : ls.flatten.length ≤ 9223372036854775807 := by
  unfold sumOK at h
  simp only [Bool.and_eq_true, decide_eq_true_eq] at h
  exact h.2
theorem rows2_C {w : World} {A0 A1 : Option Addr} {c0 c1 : Nat} {l0 l1 : List S57} (h0 : Kd.C k57 w A0 l0.length l0) (hc0 : l0.length ≤ c0) (h1 : Kd.C k57 w A1 l1.length l1) (hc1 : l1.length ≤ c1) (e : TypeId) :
    Kd.C (Kd.slice 57 k57) (w.alloc (.cells #[.slice A0 l0.length c0, .slice A1 l1.length c1] e)) (some ⟨w.heap.size, 0, none⟩) [l0, l1].length [l0, l1] := by
  have hb : Below w.heap.size w (w.alloc (.cells #[.slice A0 l0.length c0, .slice A1 l1.length c1] e)) := (Below.refl _ _).alloc (Nat.le_refl _) _
  refine ⟨rfl, by simp, fun _ => ⟨_, rfl, fun j p hj => ?_⟩⟩
  match j, hj with
  | 0, hj =>
    obtain rfl := Option.some.inj hj
    refine ⟨[.slice A0 l0.length c0], rfl, ⟨A0, c0, rfl, hc0, Kd.C_below h0 hb⟩, fun i u hi => ?_⟩
    match i, hi with
    | 0, hi => obtain rfl := Option.some.inj hi; exact (World.cell?_alloc_new _ _ _ _).trans rfl
  | 1, hj =>
    obtain rfl := Option.some.inj hj
    refine ⟨[.slice A1 l1.length c1], rfl, ⟨A1, c1, rfl, hc1, Kd.C_below h1 hb⟩, fun i u hi => ?_⟩
    match i, hi with
    | 0, hi => obtain rfl := Option.some.inj hi; exact (World.cell?_alloc_new _ _ _ _).trans rfl
theorem rows1_C {w : World} {A0 : Option Addr} {c0 : Nat} {l0 : List S57} (h0 : Kd.C k57 w A0 l0.length l0) (hc0 : l0.length ≤ c0) (e : TypeId) :
    Kd.C (Kd.slice 57 k57) (w.alloc (.cells #[.slice A0 l0.length c0] e)) (some ⟨w.heap.size, 0, none⟩) [l0].length [l0] := by
  have hb : Below w.heap.size w (w.alloc (.cells #[.slice A0 l0.length c0] e)) := (Below.refl _ _).alloc (Nat.le_refl _) _
  refine ⟨rfl, by simp, fun _ => ⟨_, rfl, fun j p hj => ?_⟩⟩
  match j, hj with
  | 0, hj =>
    obtain rfl := Option.some.inj hj
    refine ⟨[.slice A0 l0.length c0], rfl, ⟨A0, c0, rfl, hc0, Kd.C_below h0 hb⟩, fun i u hi => ?_⟩
    match i, hi with
    | 0, hi => obtain rfl := Option.some.inj hi; exact (World.cell?_alloc_new _ _ _ _).trans rfl
def quant_Plus.f (k : Nat) (l0 l1 : List S57) : Option (List S57 × Int) :=
  (quant_valid.f k l0 l1).bind fun t => if t = true then (if sumOK [l0, l1] = true then some (quant_summed.f [l0, l1]) else none) else some ([], 31)
theorem quant_Plus.mono : ∀ a0 a1 k, LeO (quant_Plus.f k a0 a1) (quant_Plus.f (k + 1) a0 a1) := by
  intro a0 a1 k
  unfold quant_Plus.f
  exact LeO.bind (quant_valid.mono _ _ _) (fun _ => LeO.refl _)
set_option maxHeartbeats 4000000 in
set_option maxRecDepth 100000 in
theorem quant_Plus.calls (k : Nat) (A0 : Option Addr) (c0 : Nat) (l0 : List S57) (A1 : Option Addr) (c1 : Nat) (l1 : List S57) (r1 : List S57) (r2 : Int) (w : World) (hr0 : Kd.C k57 w A0 l0.length l0) (hc0 : l0.length ≤ c0) (hr1 : Kd.C k57 w A1 l1.length l1) (hc1 : l1.length ≤ c1) (h : quant_Plus.f k l0 l1 = some (r1, r2)) (hG : Glob w) :
    Calls Tryz.prog 41 #[.slice A0 l0.length c0, .slice A1 l1.length c1] w fun e w' => ∃ v0_ : Value, e = .returned (.tuple #[v0_, .int .i64 r2]) ∧ Kd.R k57 57 w' w.heap.size (fun _ => True) v0_ r1 ∧ Below w.heap.size w w' := by
  unfold quant_Plus.f at h
  obtain ⟨t, ht, h2⟩ := Option.bind_eq_some_iff.mp h
  clear h
  rename _ => h
  have HV := Lib.hid (quant_valid.calls k A0 c0 l0 A1 c1 l1 t w hr0 hc0 hr1 hc1 ht hG)
  have HR0 := Aside0.mk hr0
  have HR1 := Aside0.mk hr1
  have HC0 := Aside0.mk hc0
  have HC1 := Aside0.mk hc1
  have hl0 := hr0.2.1
  have hl1 := hr1.2.1
  clear hr0 hr1 hc0 hc1 ht
  cases t with
  | false =>
    rw [if_neg Bool.false_ne_true] at h
    have h1 := Option.some.inj h
    obtain ⟨rfl, rfl⟩ := Prod.mk.inj h1
    clear h h1
    go_enter Tryz.func41, Tryz.ntmps41
    go_wp2_with (go_at_call 73; refine HV.out.mono ?_; rintro e w1 ⟨rfl, hb⟩; have HB := Aside0.mk hb; clear hb)
    go_ret2
    exact ⟨_, rfl, Kd.R_nil _ _ _ _ _, HB.out⟩
  | true =>
    rw [if_pos rfl] at h
    cases hok : sumOK [l0, l1] with
    | false => rw [hok, if_neg Bool.false_ne_true] at h; cases h
    | true =>
      rw [hok, if_pos rfl] at h
      have HS := Lib.hid (Option.some.inj h)
      have HOK := Lib.hid hok
      clear h hok
      go_enter Tryz.func41, Tryz.ntmps41
      go_wp2_with (first
        | (go_at_call 73; refine HV.out.mono ?_; rintro e w1 ⟨rfl, hb⟩; have HB := Aside0.mk hb; have HQ0 := Aside0.mk (Kd.C_below HR0.out hb); have HQ1 := Aside0.mk (Kd.C_below HR1.out hb); clear hb)
        | (go_at_call 72; go_loud (refine (quant_summed.calls (some ⟨w1.heap.size, 0, none⟩) 2 [l0, l1] r1 r2 _ (rows2_C HQ0.out HC0.out HQ1.out HC1.out _) (Nat.le_refl 2) (sumOK_names HOK.out) (sumOK_len HOK.out) HS.out).mono ?_); rintro e w2 ⟨v2, rfl, ho, hb2⟩; have HO := Aside0.mk (Kd.R_lower ho (HB.out.alloc HB.out.size _).size); have HB2 := Aside0.mk (below_step (HB.out.alloc HB.out.size _) hb2); clear ho hb2))
      go_ret2
      exact ⟨_, rfl, HO.out, HB2.out⟩
def normGo (k : Nat) : List S57 → Option Bool
  | [] => some true
  | a :: r => (quant_resource.f k a.f0).bind fun t => if t = true then (if a.f1 < 0 then some false else normGo k r) else some false
theorem normGo_mono (k : Nat) : ∀ l, LeO (normGo k l) (normGo (k + 1) l)
  | [] => LeO.refl _
  | a :: r => by
    unfold normGo
    exact LeO.bind (quant_resource.mono _ _) (fun _ => LeO.ite (LeO.ite (LeO.refl _) (normGo_mono k r)) (LeO.refl _))
def quant_Normal.f (k : Nat) (l0 : List S57) : Option (List S57 × Int) :=
  (normGo k l0).bind fun t => if t = true then (if sumOK [l0] = true then some (quant_summed.f [l0]) else none) else some ([], 31)
theorem quant_Normal.mono : ∀ a0 k, LeO (quant_Normal.f k a0) (quant_Normal.f (k + 1) a0) := by
  intro a0 k
  unfold quant_Normal.f
  exact LeO.bind (normGo_mono _ _) (fun _ => LeO.refl _)
set_option maxHeartbeats 4000000 in
set_option maxRecDepth 100000 in
theorem quant_Normal.calls (k : Nat) (A0 : Option Addr) (c0 : Nat) (l0 : List S57) (r1 : List S57) (r2 : Int) (w : World) (hr0 : Kd.C k57 w A0 l0.length l0) (hc0 : l0.length ≤ c0) (h : quant_Normal.f k l0 = some (r1, r2)) (hG : Glob w) :
    Calls Tryz.prog 36 #[.slice A0 l0.length c0] w fun e w' => ∃ v0_ : Value, e = .returned (.tuple #[v0_, .int .i64 r2]) ∧ Kd.R k57 57 w' w.heap.size (fun _ => True) v0_ r1 ∧ Below w.heap.size w w' := by
  have hu57 := Tryz.underlying57
  unfold quant_Normal.f at h
  obtain ⟨t, ht, h2⟩ := Option.bind_eq_some_iff.mp h
  clear h
  rename _ => h
  have HR0 := Aside0.mk hr0
  have HC0 := Aside0.mk hc0
  have hl0 := hr0.2.1
  have HT := Lib.hid ht
  have H := Lib.hid h
  have HG := Aside0.mk hG
  have HB0 := Aside0.mk (Below.refl w.heap.size w)
  clear hr0 hc0 ht h hG
  go_enter Tryz.func36, Tryz.ntmps36
  go_wp2
  go_loopg [5, 8] l0.length (fun g v5 v8 wr => ∃ i : Nat, v8 = .int .i64 i ∧ i ≤ l0.length ∧ l0.length ≤ i + g ∧ Aside0 (normGo k (l0.drop i) = some t) ∧ Aside0 (Below w.heap.size w wr))
  case atStart => exact ⟨0, rfl, by omega, by omega, ⟨HT.out⟩, HB0⟩
  case round =>
    clear HB0 HT
    obtain ⟨i, rfl, hin, hig, HT, HB⟩ := hrel
    by_cases hlt : i < l0.length
    · cases gk with
      | zero => omega
      | succ g =>
        obtain ⟨ad, eA, hx0, hx1⟩ := at_T57 HR0.out (i : Int) (by omega) (by omega)
        cases eA
        rw [Int.toNat_natCast] at hx0 hx1
        replace hx0 := (HB.out.cell (World.block_lt_of_cell? w _ hx0)).trans hx0
        replace hx1 := (HB.out.cell (World.block_lt_of_cell? w _ hx1)).trans hx1
        have hgo := HT.out
        rw [item_rest l0 i hlt, normGo] at hgo
        obtain ⟨b, hb, hgo2⟩ := Option.bind_eq_some_iff.mp hgo
        clear hgo
        generalize (rd_T57 l0 (i : Int)).f0 = xs at *
        generalize (rd_T57 l0 (i : Int)).f1 = xv at *
        have HRES := Lib.hid hb
        have HGO := Lib.hid hgo2
        have HB2 := Aside0.mk (HB.out.alloc HB.out.size (.cells #[.string xs, .int .i64 xv] 57))
        have HG2 := Aside0.mk (Glob.below HG.out HB2.out)
        clear hb hgo2 HT
        cases b with
        | false =>
          have hgo := HGO.out
          rw [if_neg Bool.false_ne_true] at hgo
          obtain rfl := Option.some.inj hgo
          have h1 := H.out
          rw [if_neg Bool.false_ne_true] at h1
          obtain ⟨e1, e2⟩ := Prod.mk.inj (Option.some.inj h1)
          have E1 := Lib.hid e1
          have E2 := Lib.hid e2
          clear hgo h1 e1 e2
          go_wp2_with (go_at_call 71; refine (quant_resource.calls k xs false _ HRES.out HG2.out).mono ?_; rintro e w4 ⟨rfl, hb4⟩; have HB4 := Aside0.mk (below_step HB2.out hb4); clear hb4)
          go_ret2
          refine ⟨.slice none 0 0, ?_, by rw [← E1.out]; exact Kd.R_nil _ _ _ _ _, HB4.out⟩
          rw [← E2.out]
          try rfl
        | true =>
          by_cases hneg : xv < 0
          · have hgo := HGO.out
            rw [if_pos rfl, if_pos hneg] at hgo
            obtain rfl := Option.some.inj hgo
            have h1 := H.out
            rw [if_neg Bool.false_ne_true] at h1
            obtain ⟨e1, e2⟩ := Prod.mk.inj (Option.some.inj h1)
            have E1 := Lib.hid e1
            have E2 := Lib.hid e2
            have dneg : decide (xv < 0) = true := decide_eq_true hneg
            clear hgo h1 e1 e2 hneg
            go_wp2_with (go_at_call 71; refine (quant_resource.calls k xs true _ HRES.out HG2.out).mono ?_; rintro e w4 ⟨rfl, hb4⟩; have HB4 := Aside0.mk (below_step HB2.out hb4); have BK := Aside0.mk (blk_below (blk_new wr (.cells #[.string xs, .int .i64 xv] 57)) hb4); have hc1 := (blk_cell BK.out 1).trans rfl; clear hb4)
            go_ret2
            refine ⟨.slice none 0 0, ?_, by rw [← E1.out]; exact Kd.R_nil _ _ _ _ _, HB4.out⟩
            rw [← E2.out]
            try rfl
          · have hgo := HGO.out
            rw [if_pos rfl, if_neg hneg] at hgo
            have HN := Lib.hid hgo
            have dneg : decide (xv < 0) = false := decide_eq_false hneg
            clear hgo hneg
            go_wp2_with (go_at_call 71; refine (quant_resource.calls k xs true _ HRES.out HG2.out).mono ?_; rintro e w4 ⟨rfl, hb4⟩; have HB4 := Aside0.mk (below_step HB2.out hb4); have BK := Aside0.mk (blk_below (blk_new wr (.cells #[.string xs, .int .i64 xv] 57)) hb4); have hc1 := (blk_cell BK.out 1).trans rfl; clear hb4)
            go_roundg g
            case measure => omega
            case rel => exact ⟨i + 1, by go_num, by omega, by omega, ⟨HN.out⟩, HB4⟩
    · obtain rfl : i = l0.length := by omega
      have hgo := HT.out
      rw [List.drop_length, normGo] at hgo
      obtain rfl := Option.some.inj hgo
      have h1 := H.out
      rw [if_pos rfl] at h1
      cases hok : sumOK [l0] with
      | false => rw [hok, if_neg Bool.false_ne_true] at h1; cases h1
      | true =>
        rw [hok, if_pos rfl] at h1
        have HS := Lib.hid (Option.some.inj h1)
        have HOK := Lib.hid hok
        have HQ0 := Aside0.mk (Kd.C_below HR0.out HB.out)
        clear h1 hok hgo
        go_wp2_with (go_at_call 72; refine (quant_summed.calls (some ⟨wr.heap.size, 0, none⟩) 1 [l0] r1 r2 _ (rows1_C HQ0.out HC0.out _) (Nat.le_refl 1) (sumOK_names HOK.out) (sumOK_len HOK.out) HS.out).mono ?_; rintro e w2 ⟨v2, rfl, ho, hb2⟩; have HO := Aside0.mk (Kd.R_lower ho (HB.out.alloc HB.out.size _).size); have HB2 := Aside0.mk (below_step (HB.out.alloc HB.out.size _) hb2); clear ho hb2)
        go_ret2
        exact ⟨_, rfl, HO.out, HB2.out⟩
end Go.Proofs.YtejgbdclhlolkaaGreatDoor.Q
namespace Go.Proofs.YtejgbdclhlolkaaGreatDoor.Q
open Go.RowKit Go.Proofs.YtejgbdclhlolkaaGreatDoorW.PrintWords Go.Proofs.YtejgbdclhlolkaaGreatDoorW.PrintLast Go.Proofs.YtejgbdclhlolkaaGreatDoorW.PrintMore
attribute [local go_sem] max2_int min2_int max_two min_two max_three min_three max_four min_four   -- for this text's walks alone
set_option linter.unusedVariables false
set_option linter.unusedSimpArgs false
attribute [local go_sem high] eqA57
def bursarlaw03_known.f (k : Nat)  : Option (Bool) := (quant_Parse.f k (⟨#[49, 46, 53, 75, 105]⟩ : ByteArray)).bind fun bt101 => ((quant_Parse.f k (⟨#[48, 46, 48, 48, 48, 49]⟩ : ByteArray)).bind fun bt103 => ((quant_Parse.f k (⟨#[49, 75]⟩ : ByteArray)).bind fun bt105 => ((quant_Plus.f k (([(⟨(⟨#[99, 112, 117]⟩ : ByteArray), 1⟩ : S57), (⟨(⟨#[109, 101, 109, 111, 114, 121]⟩ : ByteArray), 2⟩ : S57)] : List (S57))) (([(⟨(⟨#[109, 101, 109, 111, 114, 121]⟩ : ByteArray), 3⟩ : S57)] : List (S57)))).bind fun bt113 => (if bt101.1 = 1536000 then (if bt101.2 = 0 then (if bt103.1 = 1 then (if bt103.2 = 0 then (if bt105.2 = 30 then (if bt113.2 = 0 then (if (bt113.1.length : Int) = 2 then (if 1 < (bt113.1.length : Int) then (if ((((rd_T57 bt113.1 1).f0).toList) == ([109, 101, 109, 111, 114, 121] : List UInt8) && (((rd_T57 bt113.1 1).f1) == 5)) = true then ((quant_Print.f k 1024000).bind fun t118 => (if t118.toList = ([49, 75, 105] : List UInt8) then ((quant_Print.f k 500).bind fun t119 => (some (t119.toList == ([53, 48, 48, 109] : List UInt8)))) else (none))) else (none)) else (none)) else (none)) else (none)) else (none)) else (none)) else (none)) else (none)) else (none)))))
theorem bursarlaw03_known.mono : ∀ k, LeO (bursarlaw03_known.f k ) (bursarlaw03_known.f (k + 1) ) := by
 intro  k
 unfold bursarlaw03_known.f
 repeat' first
  |(with_reducible exact quant_Parse.mono _ _)
  |(with_reducible exact quant_Plus.mono _ _ _)
  |(with_reducible exact quant_Print.mono _ _)
  |(with_reducible exact LeO.refl _)
  |(with_reducible exact LeO.none _)
  |(with_reducible refine LeO.ite ?_ ?_)
  |(with_reducible refine LeO.bind ?_ (fun _ => ?_))
  |exact quant_Parse.mono _ _
  |exact quant_Plus.mono _ _ _
  |exact quant_Print.mono _ _
  |exact LeO.none _
  |refine LeO.ite ?_ ?_
  |refine LeO.bind ?_ (fun _ => ?_)
set_option maxHeartbeats 8000000 in
set_option maxRecDepth 100000 in
theorem bursarlaw03_known.calls (k : Nat)  (r : Bool) (w : World) (h : bursarlaw03_known.f k  = some r) (hG : Glob w) :
  Calls Tryz.prog 16 #[] w fun e w' => e = .returned (.bool r) ∧ Below w.heap.size w w':=by
 have hu57:=Tryz.underlying57
 have HB:=Aside0.mk (Below.refl w.heap.size w)
 have H : ((quant_Parse.f k (⟨#[49,46,53,75,105]⟩ : ByteArray)).bind fun bt101 => ((quant_Parse.f k (⟨#[48,46,48,48,48,49]⟩ : ByteArray)).bind fun bt103 => ((quant_Parse.f k (⟨#[49,75]⟩ : ByteArray)).bind fun bt105 => ((quant_Plus.f k (([(⟨(⟨#[99,112,117]⟩ : ByteArray),1⟩ : S57),(⟨(⟨#[109,101,109,111,114,121]⟩ : ByteArray),2⟩ : S57)] : List (S57))) (([(⟨(⟨#[109,101,109,111,114,121]⟩ : ByteArray),3⟩ : S57)] : List (S57)))).bind fun bt113 => (if bt101.1 = 1536000 then (if bt101.2 = 0 then (if bt103.1 = 1 then (if bt103.2 = 0 then (if bt105.2 = 30 then (if bt113.2 = 0 then (if (bt113.1.length : Int) = 2 then (if 1 < (bt113.1.length : Int) then (if ((((rd_T57 bt113.1 1).f0).toList) == ([109,101,109,111,114,121] : List UInt8) && (((rd_T57 bt113.1 1).f1) == 5)) = true then ((quant_Print.f k 1024000).bind fun t118 => (if t118.toList = ([49,75,105] : List UInt8) then ((quant_Print.f k 500).bind fun t119 => (some (t119.toList == ([53,48,48,109] : List UInt8)))) else (none))) else (none)) else (none)) else (none)) else (none)) else (none)) else (none)) else (none)) else (none)) else (none)))))) = some r:=h
 clear h
 replace H:=Option.bind_eq_some_iff.mp H
 obtain ⟨⟨t101,t102⟩,A10,H⟩:=H
 replace H : ((quant_Parse.f k (⟨#[48,46,48,48,48,49]⟩ : ByteArray)).bind fun bt103 => ((quant_Parse.f k (⟨#[49,75]⟩ : ByteArray)).bind fun bt105 => ((quant_Plus.f k (([(⟨(⟨#[99,112,117]⟩ : ByteArray),1⟩ : S57),(⟨(⟨#[109,101,109,111,114,121]⟩ : ByteArray),2⟩ : S57)] : List (S57))) (([(⟨(⟨#[109,101,109,111,114,121]⟩ : ByteArray),3⟩ : S57)] : List (S57)))).bind fun bt113 => (if t101 = 1536000 then (if t102 = 0 then (if bt103.1 = 1 then (if bt103.2 = 0 then (if bt105.2 = 30 then (if bt113.2 = 0 then (if (bt113.1.length : Int) = 2 then (if 1 < (bt113.1.length : Int) then (if ((((rd_T57 bt113.1 1).f0).toList) == ([109,101,109,111,114,121] : List UInt8) && (((rd_T57 bt113.1 1).f1) == 5)) = true then ((quant_Print.f k 1024000).bind fun t118 => (if t118.toList = ([49,75,105] : List UInt8) then ((quant_Print.f k 500).bind fun t119 => (some (t119.toList == ([53,48,48,109] : List UInt8)))) else (none))) else (none)) else (none)) else (none)) else (none)) else (none)) else (none)) else (none)) else (none)) else (none))))) = some r:=H
 have A1:=Aside0.mk A10
 clear A10
 replace H:=Option.bind_eq_some_iff.mp H
 obtain ⟨⟨t103,t104⟩,A20,H⟩:=H
 replace H : ((quant_Parse.f k (⟨#[49,75]⟩ : ByteArray)).bind fun bt105 => ((quant_Plus.f k (([(⟨(⟨#[99,112,117]⟩ : ByteArray),1⟩ : S57),(⟨(⟨#[109,101,109,111,114,121]⟩ : ByteArray),2⟩ : S57)] : List (S57))) (([(⟨(⟨#[109,101,109,111,114,121]⟩ : ByteArray),3⟩ : S57)] : List (S57)))).bind fun bt113 => (if t101 = 1536000 then (if t102 = 0 then (if t103 = 1 then (if t104 = 0 then (if bt105.2 = 30 then (if bt113.2 = 0 then (if (bt113.1.length : Int) = 2 then (if 1 < (bt113.1.length : Int) then (if ((((rd_T57 bt113.1 1).f0).toList) == ([109,101,109,111,114,121] : List UInt8) && (((rd_T57 bt113.1 1).f1) == 5)) = true then ((quant_Print.f k 1024000).bind fun t118 => (if t118.toList = ([49,75,105] : List UInt8) then ((quant_Print.f k 500).bind fun t119 => (some (t119.toList == ([53,48,48,109] : List UInt8)))) else (none))) else (none)) else (none)) else (none)) else (none)) else (none)) else (none)) else (none)) else (none)) else (none)))) = some r:=H
 have A2:=Aside0.mk A20
 clear A20
 replace H:=Option.bind_eq_some_iff.mp H
 obtain ⟨⟨t105,t106⟩,A30,H⟩:=H
 replace H : ((quant_Plus.f k (([(⟨(⟨#[99,112,117]⟩ : ByteArray),1⟩ : S57),(⟨(⟨#[109,101,109,111,114,121]⟩ : ByteArray),2⟩ : S57)] : List (S57))) (([(⟨(⟨#[109,101,109,111,114,121]⟩ : ByteArray),3⟩ : S57)] : List (S57)))).bind fun bt113 => (if t101 = 1536000 then (if t102 = 0 then (if t103 = 1 then (if t104 = 0 then (if t106 = 30 then (if bt113.2 = 0 then (if (bt113.1.length : Int) = 2 then (if 1 < (bt113.1.length : Int) then (if ((((rd_T57 bt113.1 1).f0).toList) == ([109,101,109,111,114,121] : List UInt8) && (((rd_T57 bt113.1 1).f1) == 5)) = true then ((quant_Print.f k 1024000).bind fun t118 => (if t118.toList = ([49,75,105] : List UInt8) then ((quant_Print.f k 500).bind fun t119 => (some (t119.toList == ([53,48,48,109] : List UInt8)))) else (none))) else (none)) else (none)) else (none)) else (none)) else (none)) else (none)) else (none)) else (none)) else (none))) = some r:=H
 have A3:=Aside0.mk A30
 clear A30
 obtain ⟨y107,hy107⟩ : ∃ y_ : List (S57),y_ = (([(⟨(⟨#[99,112,117]⟩ : ByteArray),1⟩ : S57),(⟨(⟨#[109,101,109,111,114,121]⟩ : ByteArray),2⟩ : S57)] : List (S57))):=⟨_,rfl⟩
 replace H : ((quant_Plus.f k y107 (([(⟨(⟨#[109,101,109,111,114,121]⟩ : ByteArray),3⟩ : S57)] : List (S57)))).bind fun bt113 => (if t101 = 1536000 then (if t102 = 0 then (if t103 = 1 then (if t104 = 0 then (if t106 = 30 then (if bt113.2 = 0 then (if (bt113.1.length : Int) = 2 then (if 1 < (bt113.1.length : Int) then (if ((((rd_T57 bt113.1 1).f0).toList) == ([109,101,109,111,114,121] : List UInt8) && (((rd_T57 bt113.1 1).f1) == 5)) = true then ((quant_Print.f k 1024000).bind fun t118 => (if t118.toList = ([49,75,105] : List UInt8) then ((quant_Print.f k 500).bind fun t119 => (some (t119.toList == ([53,48,48,109] : List UInt8)))) else (none))) else (none)) else (none)) else (none)) else (none)) else (none)) else (none)) else (none)) else (none)) else (none))) = some r:=by first|(rw [hy107];with_reducible exact H)|(have H2_:=(Option.bind_some _ _).symm.trans H;rw [hy107];with_reducible exact H2_)|(have H2_:=(Option.bind_some _ _).symm.trans H;with_reducible exact H2_)|with_reducible exact H|(rw [hy107];exact H)|exact H
 have Ny107:=Aside0.mk hy107
 clear hy107
 obtain ⟨y110,hy110⟩ : ∃ y_ : List (S57),y_ = (([(⟨(⟨#[109,101,109,111,114,121]⟩ : ByteArray),3⟩ : S57)] : List (S57))):=⟨_,rfl⟩
 replace H : ((quant_Plus.f k y107 y110).bind fun bt113 => (if t101 = 1536000 then (if t102 = 0 then (if t103 = 1 then (if t104 = 0 then (if t106 = 30 then (if bt113.2 = 0 then (if (bt113.1.length : Int) = 2 then (if 1 < (bt113.1.length : Int) then (if ((((rd_T57 bt113.1 1).f0).toList) == ([109,101,109,111,114,121] : List UInt8) && (((rd_T57 bt113.1 1).f1) == 5)) = true then ((quant_Print.f k 1024000).bind fun t118 => (if t118.toList = ([49,75,105] : List UInt8) then ((quant_Print.f k 500).bind fun t119 => (some (t119.toList == ([53,48,48,109] : List UInt8)))) else (none))) else (none)) else (none)) else (none)) else (none)) else (none)) else (none)) else (none)) else (none)) else (none))) = some r:=by first|(rw [hy110];with_reducible exact H)|(have H2_:=(Option.bind_some _ _).symm.trans H;rw [hy110];with_reducible exact H2_)|(have H2_:=(Option.bind_some _ _).symm.trans H;with_reducible exact H2_)|with_reducible exact H|(rw [hy110];exact H)|exact H
 have Ny110:=Aside0.mk hy110
 clear hy110
 replace H:=Option.bind_eq_some_iff.mp H
 obtain ⟨⟨t113,t114⟩,A40,H⟩:=H
 replace H : (if t101 = 1536000 then (if t102 = 0 then (if t103 = 1 then (if t104 = 0 then (if t106 = 30 then (if t114 = 0 then (if (t113.length : Int) = 2 then (if 1 < (t113.length : Int) then (if ((((rd_T57 t113 1).f0).toList) == ([109,101,109,111,114,121] : List UInt8) && (((rd_T57 t113 1).f1) == 5)) = true then ((quant_Print.f k 1024000).bind fun t118 => (if t118.toList = ([49,75,105] : List UInt8) then ((quant_Print.f k 500).bind fun t119 => (some (t119.toList == ([53,48,48,109] : List UInt8)))) else (none))) else (none)) else (none)) else (none)) else (none)) else (none)) else (none)) else (none)) else (none)) else (none)) = some r:=H
 have A4:=Aside0.mk A40
 clear A40
 by_cases c5 : t101 = 1536000
 rotate_left
 ·rw [if_neg c5] at H
  exact absurd H (by simp)
 rw [if_pos c5] at H
 have c5b0 : (t101 == 1536000) = true:=beq_iff_eq.mpr c5
 have c5b1 : (t101 != 1536000) = false:=bne_eq_false_iff_eq.mpr c5
 clear c5
 by_cases c6 : t102 = 0
 rotate_left
 ·rw [if_neg c6] at H
  exact absurd H (by simp)
 rw [if_pos c6] at H
 have c6b0 : (t102 == 0) = true:=beq_iff_eq.mpr c6
 have c6b1 : (t102 != 0) = false:=bne_eq_false_iff_eq.mpr c6
 clear c6
 by_cases c7 : t103 = 1
 rotate_left
 ·rw [if_neg c7] at H
  exact absurd H (by simp)
 rw [if_pos c7] at H
 have c7b0 : (t103 == 1) = true:=beq_iff_eq.mpr c7
 have c7b1 : (t103 != 1) = false:=bne_eq_false_iff_eq.mpr c7
 clear c7
 by_cases c8 : t104 = 0
 rotate_left
 ·rw [if_neg c8] at H
  exact absurd H (by simp)
 rw [if_pos c8] at H
 have c8b0 : (t104 == 0) = true:=beq_iff_eq.mpr c8
 have c8b1 : (t104 != 0) = false:=bne_eq_false_iff_eq.mpr c8
 clear c8
 by_cases c9 : t106 = 30
 rotate_left
 ·rw [if_neg c9] at H
  exact absurd H (by simp)
 rw [if_pos c9] at H
 have c9b0 : (t106 == 30) = true:=beq_iff_eq.mpr c9
 have c9b1 : (t106 != 30) = false:=bne_eq_false_iff_eq.mpr c9
 clear c9
 by_cases c10 : t114 = 0
 rotate_left
 ·rw [if_neg c10] at H
  exact absurd H (by simp)
 rw [if_pos c10] at H
 have c10b0 : (t114 == 0) = true:=beq_iff_eq.mpr c10
 have c10b1 : (t114 != 0) = false:=bne_eq_false_iff_eq.mpr c10
 clear c10
 by_cases c11 : (t113.length : Int) = 2
 rotate_left
 ·rw [if_neg c11] at H
  exact absurd H (by simp)
 rw [if_pos c11] at H
 have c11b0 : ((t113.length : Int) == 2) = true:=beq_iff_eq.mpr c11
 have c11b1 : ((t113.length : Int) != 2) = false:=bne_eq_false_iff_eq.mpr c11
 clear c11
 by_cases c12 : 1 < (t113.length : Int)
 rotate_left
 ·rw [if_neg c12] at H
  exact absurd H (by simp)
 rw [if_pos c12] at H
 have c12b0 : decide (1 < (t113.length : Int)) = true:=decide_eq_true c12
 have c12b1 : decide (1 < t113.length) = true:=decide_eq_true (by omega)
 clear c12
 by_cases c13 : ((((rd_T57 t113 1).f0).toList) == ([109,101,109,111,114,121] : List UInt8) && (((rd_T57 t113 1).f1) == 5)) = true
 rotate_left
 ·rw [if_neg c13] at H
  exact absurd H (by simp)
 rw [if_pos c13] at H
 have c13b0 : ((((rd_T57 t113 1).f0).toList) == ([109,101,109,111,114,121] : List UInt8) && (((rd_T57 t113 1).f1) == 5)) = true:=c13
 (try (have c13b1 : decide ((((rd_T57 t113 1).f0).toList) = ([109,101,109,111,114,121] : List UInt8) && (((rd_T57 t113 1).f1) == 5)) = true:=by simpa using c13))
 (try (have c13b2 : ((((rd_T57 t113 1).f0).toList) == ([109,101,109,111,114,121] : List UInt8) && (((rd_T57 t113 1).f1) == 5)) = true:=by simpa using c13))
 clear c13
 replace H:=Option.bind_eq_some_iff.mp H
 obtain ⟨t118,A140,H⟩:=H
 replace H : (if t118.toList = ([49,75,105] : List UInt8) then ((quant_Print.f k 500).bind fun t119 => (some (t119.toList == ([53,48,48,109] : List UInt8)))) else (none)) = some r:=H
 have A14:=Aside0.mk A140
 clear A140
 by_cases c15 : t118.toList = ([49,75,105] : List UInt8)
 rotate_left
 ·rw [if_neg c15] at H
  exact absurd H (by simp)
 rw [if_pos c15] at H
 have c15b0 : (t118.toList == ([49,75,105] : List UInt8)) = true:=beq_iff_eq.mpr c15
 have c15b1 : (t118.toList != ([49,75,105] : List UInt8)) = false:=bne_eq_false_iff_eq.mpr c15
 clear c15
 replace H:=Option.bind_eq_some_iff.mp H
 obtain ⟨t119,A160,H⟩:=H
 replace H : (some (t119.toList == ([53,48,48,109] : List UInt8))) = some r:=H
 have A16:=Aside0.mk A160
 clear A160
 obtain rfl:=Option.some.inj H
 go_enter Tryz.func16,Tryz.ntmps16
 go_wp2_with (first|((with_reducible refine gate_callee (f:=17) rfl ?_);refine goesL_ (some 10) rfl rfl Tryz.func17 (by kernel_rfl) rfl #[.string (⟨#[49,46,53,75,105]⟩ : ByteArray)] rfl (by (try simp only [List.map_toArray,List.map_cons,List.map_nil]);first|done|rfl|(simp only [List.length_drop,List.length_take];rfl)) ?_;(with_reducible refine (quant_Parse.calls k (⟨#[49,46,53,75,105]⟩ : ByteArray) t101 t102 _ A1.out (Glob.below hG (by repeat (first|(with_reducible first|exact HB.out|apply below_alloc|apply pw_below_drewN|apply below_drew1)|exact HB.out)))).mono ?_);rintro e w17 ⟨rfl,hb⟩;refine ⟨_,rfl,?_⟩;have n0_:=Aside0.mk (below_step (by repeat (first|(with_reducible first|exact HB.out|apply below_alloc|apply pw_below_drewN|apply below_drew1)|exact HB.out)) hb);clear HB;have HB:=n0_;clear n0_;(try clear hb);(try clear hb2);(try clear hk);(try clear hi))|((with_reducible refine gate_callee (f:=17) rfl ?_);refine goesL_ (some 14) rfl rfl Tryz.func17 (by kernel_rfl) rfl #[.string (⟨#[48,46,48,48,48,49]⟩ : ByteArray)] rfl (by (try simp only [List.map_toArray,List.map_cons,List.map_nil]);first|done|rfl|(simp only [List.length_drop,List.length_take];rfl)) ?_;(with_reducible refine (quant_Parse.calls k (⟨#[48,46,48,48,48,49]⟩ : ByteArray) t103 t104 _ A2.out (Glob.below hG (by repeat (first|(with_reducible first|exact HB.out|apply below_alloc|apply pw_below_drewN|apply below_drew1)|exact HB.out)))).mono ?_);rintro e w18 ⟨rfl,hb⟩;refine ⟨_,rfl,?_⟩;have n0_:=Aside0.mk (below_step (by repeat (first|(with_reducible first|exact HB.out|apply below_alloc|apply pw_below_drewN|apply below_drew1)|exact HB.out)) hb);clear HB;have HB:=n0_;clear n0_;(try clear hb);(try clear hb2);(try clear hk);(try clear hi))|((with_reducible refine gate_callee (f:=17) rfl ?_);refine goesL_ (some 18) rfl rfl Tryz.func17 (by kernel_rfl) rfl #[.string (⟨#[49,75]⟩ : ByteArray)] rfl (by (try simp only [List.map_toArray,List.map_cons,List.map_nil]);first|done|rfl|(simp only [List.length_drop,List.length_take];rfl)) ?_;(with_reducible refine (quant_Parse.calls k (⟨#[49,75]⟩ : ByteArray) t105 t106 _ A3.out (Glob.below hG (by repeat (first|(with_reducible first|exact HB.out|apply below_alloc|apply pw_below_drewN|apply below_drew1)|exact HB.out)))).mono ?_);rintro e w19 ⟨rfl,hb⟩;refine ⟨_,rfl,?_⟩;have n0_:=Aside0.mk (below_step (by repeat (first|(with_reducible first|exact HB.out|apply below_alloc|apply pw_below_drewN|apply below_drew1)|exact HB.out)) hb);clear HB;have HB:=n0_;clear n0_;(try clear hb);(try clear hb2);(try clear hk);(try clear hi))|((with_reducible refine gate_dst (N:=24) rfl ?_);(try (refine gate_guard (by rfl) ?_;dsimp only));refine Kd.R_lit k57 _ 57 ?hg (N:=24) ?hd (xs:=([(⟨(⟨#[99,112,117]⟩ : ByteArray),1⟩ : S57),(⟨(⟨#[109,101,109,111,114,121]⟩ : ByteArray),2⟩ : S57)] : List (S57))) (inner:=[.string (⟨#[99,112,117]⟩ : ByteArray),.int .i64 1,.string (⟨#[109,101,109,111,114,121]⟩ : ByteArray),.int .i64 2]) (ok:=fun _ => True) (okp:=fun _ => True) ?hr ?hp (fun _ hk => hk) trivial (Below.refl _ _) (Nat.le_refl _) (by simp) ?_;(case hd => rfl);(case hg => rfl);(case hr => first|(go_simp;done)|(go_simp;rfl));(case hp => exact (Reps.c2 (show Kd.M k57 _ _ _ (⟨(⟨#[99,112,117]⟩ : ByteArray),1⟩ : S57) [.string (⟨#[99,112,117]⟩ : ByteArray),.int .i64 1] from (k57_mkM _ _ _ (⟨(⟨#[99,112,117]⟩ : ByteArray),1⟩ : S57) )) (Reps.c2 (show Kd.M k57 _ _ _ (⟨(⟨#[109,101,109,111,114,121]⟩ : ByteArray),2⟩ : S57) [.string (⟨#[109,101,109,111,114,121]⟩ : ByteArray),.int .i64 2] from (k57_mkM _ _ _ (⟨(⟨#[109,101,109,111,114,121]⟩ : ByteArray),2⟩ : S57) )) (Reps.none _ _))));intro v108 w20 ho21 hb hg_ hnew_;clear hg_ hnew_;(first|rw [← Ny107.out] at ho21|(simp only [Int.reduceToNat] at ho21;rw [← Ny107.out] at ho21));have n0_:=Aside0.mk (Kd.R_lower ho21 (below_size (by repeat (first|(with_reducible first|exact HB.out|apply below_alloc|apply pw_below_drewN|apply below_drew1)|exact HB.out))));have n1_:=Aside0.mk (below_step (by repeat (first|(with_reducible first|exact HB.out|apply below_alloc|apply pw_below_drewN|apply below_drew1)|exact HB.out)) hb);clear HB;have HO109:=n0_;have HB:=n1_;clear n0_ n1_;clear hb ho21)|((with_reducible refine gate_dst (N:=26) rfl ?_);(try (refine gate_guard (by rfl) ?_;dsimp only));refine Kd.R_lit k57 _ 57 ?hg (N:=26) ?hd (xs:=([(⟨(⟨#[109,101,109,111,114,121]⟩ : ByteArray),3⟩ : S57)] : List (S57))) (inner:=[.string (⟨#[109,101,109,111,114,121]⟩ : ByteArray),.int .i64 3]) (ok:=fun _ => True) (okp:=fun _ => True) ?hr ?hp (fun _ hk => hk) trivial (Below.refl _ _) (Nat.le_refl _) (by simp) ?_;(case hd => rfl);(case hg => rfl);(case hr => first|(go_simp;done)|(go_simp;rfl));(case hp => exact (Reps.c2 (show Kd.M k57 _ _ _ (⟨(⟨#[109,101,109,111,114,121]⟩ : ByteArray),3⟩ : S57) [.string (⟨#[109,101,109,111,114,121]⟩ : ByteArray),.int .i64 3] from (k57_mkM _ _ _ (⟨(⟨#[109,101,109,111,114,121]⟩ : ByteArray),3⟩ : S57) )) (Reps.none _ _)));intro v111 w22 ho23 hb hg_ hnew_;clear hg_ hnew_;(first|rw [← Ny110.out] at ho23|(simp only [Int.reduceToNat] at ho23;rw [← Ny110.out] at ho23));have n0_:=Aside0.mk (Kd.R_elder' (by (with_reducible repeat (first|apply Kd.R_alloc|apply Kd.R_drewN|apply Kd.R_drew));exact HO109.out) (Kd.R_base ho23) hb);have n1_:=Aside0.mk (Kd.R_lower (Kd.R_new' ho23 (Kd.R_lt (by (with_reducible repeat (first|apply Kd.R_alloc|apply Kd.R_drewN|apply Kd.R_drew));exact HO109.out))) (below_size (by repeat (first|(with_reducible first|exact HB.out|apply below_alloc|apply pw_below_drewN|apply below_drew1)|exact HB.out))));have n2_:=Aside0.mk (below_step (by repeat (first|(with_reducible first|exact HB.out|apply below_alloc|apply pw_below_drewN|apply below_drew1)|exact HB.out)) hb);clear HO109;clear HB;have HO109:=n0_;have HO112:=n1_;have HB:=n2_;clear n0_ n1_ n2_;clear hb ho23;obtain ⟨Ao24,co24,eo24⟩:=Kd.R_slice HO109.out;subst eo24;obtain ⟨Ao25,co25,eo25⟩:=Kd.R_slice HO112.out;subst eo25)|((with_reducible refine gate_callee (f:=41) rfl ?_);refine goesL_ (some 27) rfl rfl Tryz.func41 (by kernel_rfl) rfl #[.slice Ao24 y107.length co24,.slice Ao25 y110.length co25] rfl (by (try simp only [List.map_toArray,List.map_cons,List.map_nil]);first|done|rfl|(simp only [List.length_drop,List.length_take];rfl)) ?_;(with_reducible refine (quant_Plus.calls k _ _ y107 _ _ y110 t113 t114 _ ?side1 ?side2 ?side3 ?side4 A4.out (Glob.below hG (by repeat (first|(with_reducible first|exact HB.out|apply below_alloc|apply pw_below_drewN|apply below_drew1)|exact HB.out)))).mono ?_);(case side1 => repeat (first|exact (Kd.R_reads' HO109.out).2.2|(with_reducible refine Kd.C_alloc ?_ _)|(with_reducible refine Kd.C_drewN ?_ _)|(with_reducible refine Kd.C_drew ?_)));(case side2 => exact (Kd.R_reads' HO109.out).2.1);(case side3 => repeat (first|exact (Kd.R_reads' HO112.out).2.2|(with_reducible refine Kd.C_alloc ?_ _)|(with_reducible refine Kd.C_drewN ?_ _)|(with_reducible refine Kd.C_drew ?_)));(case side4 => exact (Kd.R_reads' HO112.out).2.1);rintro e w26 ⟨v115,rfl,ho0,hb⟩;refine ⟨_,rfl,?_⟩;have n0_:=Aside0.mk (Kd.R_elder' (by (with_reducible repeat (first|apply Kd.R_alloc|apply Kd.R_drewN|apply Kd.R_drew));exact HO109.out) (Kd.R_base ho0) hb);have n1_:=Aside0.mk (Kd.R_elder' (by (with_reducible repeat (first|apply Kd.R_alloc|apply Kd.R_drewN|apply Kd.R_drew));exact HO112.out) (Kd.R_base ho0) hb);have n2_:=Aside0.mk (Kd.R_lower (Kd.R_new' (Kd.R_new' ho0 (Kd.R_lt (by (with_reducible repeat (first|apply Kd.R_alloc|apply Kd.R_drewN|apply Kd.R_drew));exact HO109.out))) (Kd.R_lt (by (with_reducible repeat (first|apply Kd.R_alloc|apply Kd.R_drewN|apply Kd.R_drew));exact HO112.out))) (below_size (by repeat (first|(with_reducible first|exact HB.out|apply below_alloc|apply pw_below_drewN|apply below_drew1)|exact HB.out))));have n3_:=Aside0.mk (below_step (by repeat (first|(with_reducible first|exact HB.out|apply below_alloc|apply pw_below_drewN|apply below_drew1)|exact HB.out)) hb);clear HO109;clear HO112;clear HB;have HO109:=n0_;have HO112:=n1_;have HO116:=n2_;have HB:=n3_;clear n0_ n1_ n2_ n3_;(try clear hb);(try clear hb2);(try clear hk);(try clear hi);(try clear ho0);obtain ⟨Ao27,co27,eo27⟩:=Kd.R_slice HO116.out;subst eo27;have p117 : 0 ≤ (1 : Int):=(by omega);have q117 : 1 < (t113.length : Int):=of_decide_eq_true (by first|(with_reducible assumption)|assumption);obtain ⟨ad117,e117,hx117_0,hx117_1⟩:=at_T57 (Kd.R_reads' HO116.out).2.2 1 p117 q117;cases e117;(try simp only [show (1 : Int).toNat = 1 from rfl,Nat.reduceMul,Nat.reduceEqDiff,Go.Addr.add,↓reduceIte] at hx117_0);(try simp only [show (1 : Int).toNat = 1 from rfl,Nat.reduceMul,Nat.reduceEqDiff,Go.Addr.add,↓reduceIte] at hx117_1);have qi117 : (1 < t113.length) = True:=eq_true (by omega);(try rw [show ((1 : Int)).toNat = 1 from rfl] at hx117_0);(try rw [show 1 * 2 = 2 from rfl] at hx117_0);(try rw [show ((1 : Int)).toNat = 1 from rfl] at hx117_1);(try rw [show 1 * 2 = 2 from rfl] at hx117_1);replace p117:=eq_true p117;replace q117:=eq_true q117)|(go_at_call 19;(with_reducible refine (quant_Print.calls k 1024000 t118 _ A14.out (Glob.below hG (by repeat (first|(with_reducible first|exact HB.out|apply below_alloc|apply pw_below_drewN|apply below_drew1)|exact HB.out)))).mono ?_);rintro e w28 ⟨rfl,hb⟩;have n0_:=Aside0.mk (Kd.R_below (by (with_reducible repeat (first|apply Kd.R_alloc|apply Kd.R_drewN|apply Kd.R_drew));exact HO109.out) hb);have n1_:=Aside0.mk (Kd.R_below (by (with_reducible repeat (first|apply Kd.R_alloc|apply Kd.R_drewN|apply Kd.R_drew));exact HO112.out) hb);have n2_:=Aside0.mk (Kd.R_below (by (with_reducible repeat (first|apply Kd.R_alloc|apply Kd.R_drewN|apply Kd.R_drew));exact HO116.out) hb);have n3_:=Aside0.mk (below_step (by repeat (first|(with_reducible first|exact HB.out|apply below_alloc|apply pw_below_drewN|apply below_drew1)|exact HB.out)) hb);clear HO109;clear HO112;clear HO116;clear HB;have HO109:=n0_;have HO112:=n1_;have HO116:=n2_;have HB:=n3_;clear n0_ n1_ n2_ n3_;(try clear hb);(try clear hb2);(try clear hk);(try clear hi))|(go_at_call 19;(with_reducible refine (quant_Print.calls k 500 t119 _ A16.out (Glob.below hG (by repeat (first|(with_reducible first|exact HB.out|apply below_alloc|apply pw_below_drewN|apply below_drew1)|exact HB.out)))).mono ?_);rintro e w29 ⟨rfl,hb⟩;have n0_:=Aside0.mk (Kd.R_below (by (with_reducible repeat (first|apply Kd.R_alloc|apply Kd.R_drewN|apply Kd.R_drew));exact HO109.out) hb);have n1_:=Aside0.mk (Kd.R_below (by (with_reducible repeat (first|apply Kd.R_alloc|apply Kd.R_drewN|apply Kd.R_drew));exact HO112.out) hb);have n2_:=Aside0.mk (Kd.R_below (by (with_reducible repeat (first|apply Kd.R_alloc|apply Kd.R_drewN|apply Kd.R_drew));exact HO116.out) hb);have n3_:=Aside0.mk (below_step (by repeat (first|(with_reducible first|exact HB.out|apply below_alloc|apply pw_below_drewN|apply below_drew1)|exact HB.out)) hb);clear HO109;clear HO112;clear HO116;clear HB;have HO109:=n0_;have HO112:=n1_;have HO116:=n2_;have HB:=n3_;clear n0_ n1_ n2_ n3_;(try clear hb);(try clear hb2);(try clear hk);(try clear hi)))
 go_ret
 exact ⟨by first|rfl|(simp [errW_none,errW_some] <;> rfl)|(simp [*,errW_none,errW_some] <;> rfl),by repeat (first|(with_reducible first|exact HB.out|apply below_alloc|apply pw_below_drewN|apply below_drew1)|exact HB.out)⟩
end Go.Proofs.YtejgbdclhlolkaaGreatDoor.Q
namespace Go.Proofs.YtejgbdclhlolkaaGreatDoor.Q
open Go.RowKit Go.Proofs.YtejgbdclhlolkaaGreatDoorW.PrintWords Go.Proofs.YtejgbdclhlolkaaGreatDoorW.PrintLast Go.Proofs.YtejgbdclhlolkaaGreatDoorW.PrintMore
attribute [local go_sem] max2_int min2_int max_two min_two max_three min_three max_four min_four   -- for this text's walks alone
set_option linter.unusedVariables false
set_option linter.unusedSimpArgs false
attribute [local go_sem high] eqA57
def bursarlaw03_same.l0 : Nat → List (S57) → List (S57) → Int → Option (Bool)
|0,_,_,_ => none
|k + 1,x0,x1,x5 => if x5 < (x0.length : Int) then (if 0 ≤ x5 then (if x5 < (x1.length : Int) then (if (!((((rd_T57 x0 x5).f0).toList) == (((rd_T57 x1 x5).f0).toList)) || (!(((rd_T57 x0 x5).f1) == ((rd_T57 x1 x5).f1)))) = true then (some false) else (bursarlaw03_same.l0 k x0 x1 (wrap64 (x5 + 1)))) else (none)) else (none)) else (some true)
def bursarlaw03_same.f (k : Nat) (l0 : List (S57)) (l1 : List (S57)) : Option (Bool) := if (l0.length : Int) = (l1.length : Int) then (bursarlaw03_same.l0 k l0 l1 0) else (some false)
theorem bursarlaw03_same.mono_l : ∀ k, (∀ y0 y1 y2, LeO (bursarlaw03_same.l0 k y0 y1 y2) (bursarlaw03_same.l0 (k + 1) y0 y1 y2))
|0 => fun _ _ _ r h => by simp [bursarlaw03_same.l0] at h
|k + 1 => by
  have ih0:=bursarlaw03_same.mono_l k
  ·intro y0 y1 y2
   unfold bursarlaw03_same.l0
   repeat' first
  |(with_reducible exact ih0 _ _ _)
  |(with_reducible exact LeO.refl _)
  |(with_reducible exact LeO.none _)
  |(with_reducible refine LeO.ite ?_ ?_)
  |(with_reducible refine LeO.bind ?_ (fun _ => ?_))
  |exact ih0 _ _ _
  |exact LeO.none _
  |refine LeO.ite ?_ ?_
  |refine LeO.bind ?_ (fun _ => ?_)
theorem bursarlaw03_same.mono : ∀ a0 a1 k, LeO (bursarlaw03_same.f k a0 a1) (bursarlaw03_same.f (k + 1) a0 a1) := by
 intro a0 a1 k
 have ih0:=bursarlaw03_same.mono_l k
 unfold bursarlaw03_same.f
 repeat' first
  |(with_reducible exact ih0 _ _ _)
  |(with_reducible exact LeO.refl _)
  |(with_reducible exact LeO.none _)
  |(with_reducible refine LeO.ite ?_ ?_)
  |(with_reducible refine LeO.bind ?_ (fun _ => ?_))
  |exact ih0 _ _ _
  |exact LeO.none _
  |refine LeO.ite ?_ ?_
  |refine LeO.bind ?_ (fun _ => ?_)
set_option maxHeartbeats 8000000 in
set_option maxRecDepth 100000 in
theorem bursarlaw03_same.calls (k : Nat) (A0 : Option Addr) (c0 : Nat) (l0 : List (S57)) (A1 : Option Addr) (c1 : Nat) (l1 : List (S57)) (r : Bool) (w : World) (hr0 : Kd.C k57 w A0 l0.length l0) (hc0 : l0.length ≤ c0) (hr1 : Kd.C k57 w A1 l1.length l1) (hc1 : l1.length ≤ c1) (h : bursarlaw03_same.f k l0 l1 = some r) :
  Calls Tryz.prog 39 #[.slice A0 l0.length c0,.slice A1 l1.length c1] w fun e w' => e = .returned (.bool r) ∧ Drawn0 w w':=by
 have hu57:=Tryz.underlying57
 have HR0:=Aside0.mk hr0
 have HC0:=Aside0.mk hc0
 clear hr0 hc0
 have HR1:=Aside0.mk hr1
 have HC1:=Aside0.mk hc1
 clear hr1 hc1
 have H : (if (l0.length : Int) = (l1.length : Int) then (bursarlaw03_same.l0 k l0 l1 0) else (some false)) = some r:=h
 clear h
 by_cases c3 : (l0.length : Int) = (l1.length : Int)
 rotate_left
 ·rw [if_neg c3] at H
  have c3b0 : ((l0.length : Int) == (l1.length : Int)) = false:=beq_eq_false_iff_ne.mpr c3
  have c3b1 : ((l0.length : Int) != (l1.length : Int)) = true:=bne_iff_ne.mpr c3
  have c3b2 : (l0.length == l1.length) = false:=by first|simpa using c3|(simp at c3 ⊢;omega)
  obtain rfl:=Option.some.inj H
  go_enter Tryz.func39,Tryz.ntmps39
  go_wp2
  repeat (go_quiet (fail);try go_wp2)
  go_ret
  exact ⟨by first|rfl|(simp;done)|(simp [*];done),by repeat (first|exact Drawn0.refl _|apply Drawn0.step)⟩
 rw [if_pos c3] at H
 have c3b0 : ((l0.length : Int) == (l1.length : Int)) = true:=beq_iff_eq.mpr c3
 have c3b1 : ((l0.length : Int) != (l1.length : Int)) = false:=bne_eq_false_iff_eq.mpr c3
 have c3b2 : (l0.length == l1.length) = true:=by first|simpa using c3|(simp at c3 ⊢;omega)
 clear c3
 have H':=Aside0.mk H
 clear H
 go_enter Tryz.func39,Tryz.ntmps39
 go_wp2
 repeat (go_quiet (fail);try go_wp2)
 go_loopg [5] k (fun kq v5 w' => ∃ (x5_1 : Int),v5 = .int .i64 x5_1 ∧ Aside0 (bursarlaw03_same.l0 kq l0 l1 x5_1 = some r) ∧ Aside0 (kq ≤ k) ∧ Drawn0 w w')
 case atStart => exact ⟨(0),(by first|rfl|(simp;done)|(simp [*];done)|(simp;rw [Bool.eq_iff_iff];simp;done)|(rw [Bool.eq_iff_iff];simp;done)),H',⟨Nat.le_refl _⟩,by repeat (first|exact Drawn0.refl _|apply Drawn0.step)⟩
 case round =>
  clear H';(try clear c1);(try clear p2);(try clear c3);(try clear c3b0);(try clear c3b1);(try clear c3b2)
  obtain ⟨x5_1,rfl,HA,HK1,⟨m1,rfl⟩⟩:=hrel
  cases gk with
 |zero => exact absurd HA.out (by simp [bursarlaw03_same.l0])
 |succ k1 =>
   have H:=HA.out
   clear HA
   simp only [bursarlaw03_same.l0] at H
   by_cases c4 : x5_1 < (l0.length : Int)
   rotate_left
   ·rw [if_neg c4] at H
    have c4b0 : decide (x5_1 < (l0.length : Int)) = false:=decide_eq_false c4
    clear c4
    obtain rfl:=Option.some.inj H
    go_wp2
    repeat (go_quiet (fail);try go_wp2)
    go_ret
    exact ⟨by first|rfl|(simp;done)|(simp [*];done),by repeat (first|exact Drawn0.refl _|apply Drawn0.step)⟩
   rw [if_pos c4] at H
   have c4b0 : decide (x5_1 < (l0.length : Int)) = true:=decide_eq_true c4
   clear c4
   by_cases c5 : 0 ≤ x5_1
   rotate_left
   ·rw [if_neg c5] at H
    exact absurd H (by simp)
   rw [if_pos c5] at H
   have c5b0 : decide (0 ≤ x5_1) = true:=decide_eq_true c5
   clear c5
   by_cases c6 : x5_1 < (l1.length : Int)
   rotate_left
   ·rw [if_neg c6] at H
    exact absurd H (by simp)
   rw [if_pos c6] at H
   have c6b0 : decide (x5_1 < (l1.length : Int)) = true:=decide_eq_true c6
   clear c6
   by_cases c7 : (!((((rd_T57 l0 x5_1).f0).toList) == (((rd_T57 l1 x5_1).f0).toList)) || (!(((rd_T57 l0 x5_1).f1) == ((rd_T57 l1 x5_1).f1)))) = true
   ·rw [if_pos c7] at H
    have c7b0 : (!((((rd_T57 l0 x5_1).f0).toList) == (((rd_T57 l1 x5_1).f0).toList)) || (!(((rd_T57 l0 x5_1).f1) == ((rd_T57 l1 x5_1).f1)))) = true:=c7
    clear c7
    obtain rfl:=Option.some.inj H
    have p502 : 0 ≤ (x5_1 : Int):=of_decide_eq_true (by first|(with_reducible assumption)|assumption)
    have q502 : x5_1 < (l0.length : Int):=of_decide_eq_true (by first|(with_reducible assumption)|assumption)
    obtain ⟨ad502,e502,hx502_0,hx502_1⟩:=at_T57 HR0.out x5_1 p502 q502
    cases e502
    replace p502:=eq_true p502
    replace q502:=eq_true q502
    have p503 : 0 ≤ (x5_1 : Int):=of_decide_eq_true (by first|(with_reducible assumption)|assumption)
    have q503 : x5_1 < (l1.length : Int):=of_decide_eq_true (by first|(with_reducible assumption)|assumption)
    obtain ⟨ad503,e503,hx503_0,hx503_1⟩:=at_T57 HR1.out x5_1 p503 q503
    cases e503
    replace p503:=eq_true p503
    replace q503:=eq_true q503
    go_wp2
    repeat (go_quiet (fail);try go_wp2)
    go_ret
    exact ⟨by first|rfl|(simp;done)|(simp [*];done),by repeat (first|exact Drawn0.refl _|apply Drawn0.step)⟩
   rw [if_neg c7] at H
   have c7b0 : (!((((rd_T57 l0 x5_1).f0).toList) == (((rd_T57 l1 x5_1).f0).toList)) || (!(((rd_T57 l0 x5_1).f1) == ((rd_T57 l1 x5_1).f1)))) = false:=by simpa using c7
   clear c7
   have H':=Aside0.mk H
   clear H
   have p502 : 0 ≤ (x5_1 : Int):=of_decide_eq_true (by first|(with_reducible assumption)|assumption)
   have q502 : x5_1 < (l0.length : Int):=of_decide_eq_true (by first|(with_reducible assumption)|assumption)
   obtain ⟨ad502,e502,hx502_0,hx502_1⟩:=at_T57 HR0.out x5_1 p502 q502
   cases e502
   replace p502:=eq_true p502
   replace q502:=eq_true q502
   have p503 : 0 ≤ (x5_1 : Int):=of_decide_eq_true (by first|(with_reducible assumption)|assumption)
   have q503 : x5_1 < (l1.length : Int):=of_decide_eq_true (by first|(with_reducible assumption)|assumption)
   obtain ⟨ad503,e503,hx503_0,hx503_1⟩:=at_T57 HR1.out x5_1 p503 q503
   cases e503
   replace p503:=eq_true p503
   replace q503:=eq_true q503
   go_wp2
   repeat (go_quiet (fail);try go_wp2)
   go_roundg k1
   case measure => have:=HK1.out;omega
   case rel => exact ⟨(wrap64 (x5_1 + 1)),(by first|rfl|(simp;done)|(simp [*];done)|(simp;rw [Bool.eq_iff_iff];simp;done)|(rw [Bool.eq_iff_iff];simp;done)),H',⟨by have:=HK1.out;omega⟩,by repeat (first|exact Drawn0.refl _|apply Drawn0.step)⟩
end Go.Proofs.YtejgbdclhlolkaaGreatDoor.Q
namespace Go.Proofs.YtejgbdclhlolkaaGreatDoor.Q
open Go.RowKit Go.Proofs.YtejgbdclhlolkaaGreatDoorW.PrintWords Go.Proofs.YtejgbdclhlolkaaGreatDoorW.PrintLast
set_option linter.unusedVariables false
set_option linter.unusedSimpArgs false
def markS : S57 := ⟨⟨#[109, 97, 114, 107]⟩, 77⟩
def bursarlaw03_behind.f (l0 : List S57) : Option (List S57) := if l0.length ≤ 4000000000 then some (l0 ++ [markS]) else none
set_option maxHeartbeats 4000000 in
set_option maxRecDepth 100000 in
theorem bursarlaw03_behind.calls (A0 : Option Addr) (c0 : Nat) (l0 : List S57) (r : List S57) (w : World) (hr0 : Kd.C k57 w A0 l0.length l0) (hc0 : l0.length ≤ c0) (h : bursarlaw03_behind.f l0 = some r) (hG : GlobM w) :
    Calls Tryz.prog 29 #[.slice A0 l0.length c0] w fun e w' => ∃ v0_ : Value, e = .returned (v0_) ∧ Kd.R k57 57 w' w.heap.size (fun _ => True) v0_ r ∧ Below w.heap.size w w' := by
  unfold bursarlaw03_behind.f at h
  split at h
  rotate_left
  · cases h
  rename_i hlen
  obtain rfl := Option.some.inj h
  clear h
  have HL := Lib.hid hlen
  have HR0 := Aside0.mk hr0
  clear hlen hr0
  have hu57 := Tryz.underlying57
  have HGM := Lib.hid hG
  clear hG
  go_enter Tryz.func29, Tryz.ntmps29
  go_wp2_with (first
    | ((with_reducible refine gate_builtin (b := .append) (xs := #[.tmp 4, .tmp 5]) rfl ?_); at_builtin; refine Kd.R_append_rows k57 (w0 := w) w.heap.size rfl (.tmp 4) (.tmp 5) 46 57 (.agg #[(.string ⟨#[]⟩), (.int .i64 0)]) 24 rfl Tryz.underlying46 info57 rfl (by decide) (by omega) (.slice none 0 0) ([] : List (S57)) l0 _ _ _ (fun _ => True) (fun _ => False) rfl rfl ?aO ?aR (fun _ _ h => h) (fun _ h => h.elim) ?aF ?aB ?aS ?aL ?_; (case aR => exact HR0.out); (case aB => exact Below.refl _ _); (case aF => exact (fun _ _ => trivial)); (case aO => exact (Kd.R_nil _ _ _ _ (fun _ => True))); (case aS => exact Nat.le_refl _); (case aL => have := HL.out; simp; omega);
        intro v1 w1 ho hb hg hat; rw [List.nil_append] at ho; have HO := Aside0.mk ho; have HB := Aside0.mk hb; have hm0 := (GlobM.below HGM.out hb).mark0; have hm1 := (GlobM.below HGM.out hb).mark1; clear ho hb hg hat)
    | ((with_reducible refine gate_builtin (b := .append) (xs := #[.tmp 7, .tmp 9]) rfl ?_); at_builtin; refine Kd.R_append k57 (w0 := w) w.heap.size rfl (.tmp 7) (.tmp 9) 46 57 (.agg #[(.string ⟨#[]⟩), (.int .i64 0)]) 24 rfl Tryz.underlying46 info57 rfl (by decide) (by omega) v1 l0 markS [.string ⟨#[109, 97, 114, 107]⟩, .int .i64 77] (fun _ => True) (fun _ => False) rfl rfl ?aP (fun _ hk => hk.elim) ?aF ?aO ?aB ?aS ?aL ?_; (case aP => exact k57_mkM _ _ _ markS); (case aB => exact (by repeat (first | (with_reducible first | exact HB.out | apply below_alloc | apply pw_below_drewN | apply below_drew1) | exact HB.out))); (case aF => exact (fun _ _ => trivial)); (case aO => exact (by (with_reducible repeat (first | apply Kd.R_alloc | apply Kd.R_drewN | apply Kd.R_drew)); exact HO.out)); (case aS => exact (below_size (by repeat (first | (with_reducible first | exact HB.out | apply below_alloc | apply pw_below_drewN | apply below_drew1) | exact HB.out)))); (case aL => have := HL.out; omega);
        intro v2 w2 ho hb hg hat; have HO2 := Aside0.mk ho; have HB2 := Aside0.mk hb; clear ho hb hg hat))
  go_ret
  exact ⟨_, rfl, HO2.out, HB2.out⟩
end Go.Proofs.YtejgbdclhlolkaaGreatDoor.Q
namespace Go.Proofs.YtejgbdclhlolkaaGreatDoor.Q
open Go.RowKit Go.Proofs.YtejgbdclhlolkaaGreatDoorW.PrintWords Go.Proofs.YtejgbdclhlolkaaGreatDoorW.PrintLast
attribute [local go_sem high] eqA57
set_option linter.unusedVariables false
set_option linter.unusedSimpArgs false
def bursarlaw03_untouched.f (k : Nat) (l0 l1 : List S57) : Option Bool :=
  if 4000000000 < l1.length then none else if l0.length = l1.length + 1 then ((bursarlaw03_same.f k (l0.take l1.length) l1).bind fun t => if t = true then some ((rd_T57 l0 (l1.length : Int)).f0.toList == (⟨#[109, 97, 114, 107]⟩ : ByteArray).toList && ((rd_T57 l0 (l1.length : Int)).f1 == 77)) else some false) else some false
theorem bursarlaw03_untouched.mono : ∀ a0 a1 k, LeO (bursarlaw03_untouched.f k a0 a1) (bursarlaw03_untouched.f (k + 1) a0 a1) := by
  intro a0 a1 k
  unfold bursarlaw03_untouched.f
  repeat' first
    | exact LeO.refl _
    | refine LeO.ite ?_ ?_
    | (refine LeO.bind (bursarlaw03_same.mono _ _ _) (fun _ => ?_))
theorem same_at (k : Nat) (A0 : Option Addr) (c0 : Nat) (l0 : List S57) (A1 : Option Addr) (c1 : Nat) (l1 : List S57) (b : Bool) (hl : l1.length ≤ l0.length) (h : bursarlaw03_same.f k (l0.take l1.length) l1 = some b) (w : World)
    (hr0 : Kd.C k57 w A0 l0.length l0) (hc0 : l0.length ≤ c0) (hr1 : Kd.C k57 w A1 l1.length l1) (hc1 : l1.length ≤ c1) :
    Calls Tryz.prog 39 #[.slice A0 l1.length c0, .slice A1 l1.length c1] w fun e w' => e = .returned (.bool b) ∧ Drawn0 w w' := by
  have hk := bursarlaw03_same.calls k A0 c0 (l0.take l1.length) A1 c1 l1 b w (Kd.C_take hr0 hl) (by rw [List.length_take]; omega) hr1 hc1 h
  rwa [show (l0.take l1.length).length = l1.length by rw [List.length_take]; omega] at hk
set_option maxHeartbeats 4000000 in
set_option maxRecDepth 100000 in
theorem bursarlaw03_untouched.calls (k : Nat) (A0 : Option Addr) (c0 : Nat) (l0 : List S57) (A1 : Option Addr) (c1 : Nat) (l1 : List S57) (r : Bool) (w : World) (hr0 : Kd.C k57 w A0 l0.length l0) (hc0 : l0.length ≤ c0) (hr1 : Kd.C k57 w A1 l1.length l1) (hc1 : l1.length ≤ c1) (h : bursarlaw03_untouched.f k l0 l1 = some r) (hG : GlobM w) :
    Calls Tryz.prog 32 #[.slice A0 l0.length c0, .slice A1 l1.length c1] w fun e w' => e = .returned (.bool r) ∧ Below w.heap.size w w' := by
  unfold bursarlaw03_untouched.f at h
  by_cases hb : 4000000000 < l1.length
  · rw [if_pos hb] at h; cases h
  rw [if_neg hb] at h
  have HR0 := Aside0.mk hr0
  have HR1 := Aside0.mk hr1
  have HC0 := Aside0.mk hc0
  have HC1 := Aside0.mk hc1
  have hwr : IntKind.i64.wrap ((l1.length : Int) + 1) = (l1.length : Int) + 1 := by rw [IntKind.wrap_i64]; omega
  have hwr2 : wrap64 ((l1.length : Int) + 1) = (l1.length : Int) + 1 := by unfold wrap64; omega
  by_cases hl : l0.length = l1.length + 1
  rotate_left
  · rw [if_neg hl] at h
    obtain rfl := Option.some.inj h
    have d1 : ((l0.length : Int) == (l1.length : Int) + 1) = false := beq_eq_false_iff_ne.2 (by omega)
    clear h hl hr0 hr1 hb
    go_enter Tryz.func32, Tryz.ntmps32
    go_wp2
    repeat (go_quiet (fail); try go_wp2)
    go_ret
    exact ⟨rfl, by repeat (first | (with_reducible first | exact Below.refl _ _ | apply pw_below_drewN | apply below_drew1) | exact Below.refl _ _)⟩
  · rw [if_pos hl] at h
    have d1 : ((l0.length : Int) == (l1.length : Int) + 1) = true := beq_iff_eq.2 (by omega)
    obtain ⟨t, ht, h⟩ := Option.bind_eq_some_iff.mp h
    have HT := Lib.hid ht
    obtain ⟨ad, eA, hx0, hx1⟩ := at_T57 hr0 (l1.length : Int) (by omega) (by omega)
    cases eA
    rw [Int.toNat_natCast] at hx0 hx1
    have hm0 := hG.mark0
    have hm1 := hG.mark1
    have hcap : l1.length ≤ c0 := by omega
    have hlt : (l1.length : Int) < (l0.length : Int) := by omega
    cases t with
    | false =>
      rw [if_neg (by decide)] at h
      obtain rfl := Option.some.inj h
      clear h ht hr0 hr1 hb hm0 hm1
      go_enter Tryz.func32, Tryz.ntmps32
      go_wp2_with (go_at_call 39; refine (same_at k (some ad) c0 l0 A1 c1 l1 false (by omega) HT.out _ (by (with_reducible repeat (first | apply Kd.C_drewN | apply Kd.C_drew)); exact HR0.out) HC0.out (by (with_reducible repeat (first | apply Kd.C_drewN | apply Kd.C_drew)); exact HR1.out) HC1.out).mono ?_; rintro e w2 ⟨rfl, ⟨nd, rfl⟩⟩; refine ⟨rfl, ?_⟩; simp; exact ⟨_, rfl⟩)
      repeat (go_quiet (first | (go_at_call 39; refine (same_at k (some ad) c0 l0 A1 c1 l1 false (by omega) HT.out _ (by (with_reducible repeat (first | apply Kd.C_drewN | apply Kd.C_drew)); exact HR0.out) HC0.out (by (with_reducible repeat (first | apply Kd.C_drewN | apply Kd.C_drew)); exact HR1.out) HC1.out).mono ?_; rintro e w2 ⟨rfl, ⟨nd, rfl⟩⟩; refine ⟨rfl, ?_⟩; simp; exact ⟨_, rfl⟩)); try go_wp2)
      go_ret
      exact ⟨rfl, by repeat (first | (with_reducible first | exact Below.refl _ _ | apply pw_below_drewN | apply below_drew1) | exact Below.refl _ _)⟩
    | true =>
      rw [if_pos rfl] at h
      have hr := Lib.hid (Option.some.inj h)
      clear h ht hr0 hr1 hb
      generalize (rd_T57 l0 (l1.length : Int)).f0 = s at *
      generalize (rd_T57 l0 (l1.length : Int)).f1 = v at *
      cases hq : (s.toList == (⟨#[109, 97, 114, 107]⟩ : ByteArray).toList && (v == 77)) with
      | false =>
        have hrr := Lib.hid (hr.out.symm.trans hq)
        go_enter Tryz.func32, Tryz.ntmps32
        go_wp2_with (go_at_call 39; refine (same_at k (some ad) c0 l0 A1 c1 l1 true (by omega) HT.out _ (by (with_reducible repeat (first | apply Kd.C_drewN | apply Kd.C_drew)); exact HR0.out) HC0.out (by (with_reducible repeat (first | apply Kd.C_drewN | apply Kd.C_drew)); exact HR1.out) HC1.out).mono ?_; rintro e w2 ⟨rfl, ⟨nd, rfl⟩⟩; refine ⟨rfl, ?_⟩; simp; exact ⟨_, rfl⟩)
        repeat (go_quiet (first | (go_at_call 39; refine (same_at k (some ad) c0 l0 A1 c1 l1 true (by omega) HT.out _ (by (with_reducible repeat (first | apply Kd.C_drewN | apply Kd.C_drew)); exact HR0.out) HC0.out (by (with_reducible repeat (first | apply Kd.C_drewN | apply Kd.C_drew)); exact HR1.out) HC1.out).mono ?_; rintro e w2 ⟨rfl, ⟨nd, rfl⟩⟩; refine ⟨rfl, ?_⟩; simp; exact ⟨_, rfl⟩)); try go_wp2)
        go_ret
        exact ⟨by rw [hrr.out]; first | rfl | (simp [hq]; done) | (simp_all; done), by repeat (first | (with_reducible first | exact Below.refl _ _ | apply pw_below_drewN | apply below_drew1) | exact Below.refl _ _)⟩
      | true =>
        have hrr := Lib.hid (hr.out.symm.trans hq)
        go_enter Tryz.func32, Tryz.ntmps32
        go_wp2_with (go_at_call 39; refine (same_at k (some ad) c0 l0 A1 c1 l1 true (by omega) HT.out _ (by (with_reducible repeat (first | apply Kd.C_drewN | apply Kd.C_drew)); exact HR0.out) HC0.out (by (with_reducible repeat (first | apply Kd.C_drewN | apply Kd.C_drew)); exact HR1.out) HC1.out).mono ?_; rintro e w2 ⟨rfl, ⟨nd, rfl⟩⟩; refine ⟨rfl, ?_⟩; simp; exact ⟨_, rfl⟩)
        repeat (go_quiet (first | (go_at_call 39; refine (same_at k (some ad) c0 l0 A1 c1 l1 true (by omega) HT.out _ (by (with_reducible repeat (first | apply Kd.C_drewN | apply Kd.C_drew)); exact HR0.out) HC0.out (by (with_reducible repeat (first | apply Kd.C_drewN | apply Kd.C_drew)); exact HR1.out) HC1.out).mono ?_; rintro e w2 ⟨rfl, ⟨nd, rfl⟩⟩; refine ⟨rfl, ?_⟩; simp; exact ⟨_, rfl⟩)); try go_wp2)
        go_ret
        exact ⟨by rw [hrr.out]; first | rfl | (simp [hq]; done) | (simp_all; done), by repeat (first | (with_reducible first | exact Below.refl _ _ | apply pw_below_drewN | apply below_drew1) | exact Below.refl _ _)⟩
end Go.Proofs.YtejgbdclhlolkaaGreatDoor.Q
namespace Go.Proofs.YtejgbdclhlolkaaGreatDoor.Q
open Go.RowKit Go.Lib Go.Maps Go.Proofs.YtejgbdclhlolkaaGreatDoorW.PrintWords Go.Proofs.YtejgbdclhlolkaaGreatDoorW.PrintLast
set_option linter.unusedVariables false
set_option linter.unusedSimpArgs false
def minA : List S57 → List S57 → List S57
  | L, [] => L
  | L, a :: r => minA (insS L a.f0 a.f1) r
def minB : List S57 → List S57 → Option (List S57)
  | L, [] => some L
  | L, x :: r => if valOf L x.f0 < x.f1 then none else minB (insS L x.f0 (wrap64 (valOf L x.f0 - x.f1))) r
def minP (l0 l1 : List S57) : List S57 × Int := match minB (minA [] l0) l1 with
  | none => ([], 1)
  | some L => quant_listed.f L
def minOK (l0 l1 : List S57) : Bool := (l0.all fun x => decide (x.f0.size ≤ 48) && decide (-9223372036854775808 ≤ x.f1) && decide (x.f1 ≤ 9223372036854775807)) && (l1.all fun x => decide (x.f0.size ≤ 48)) && decide (l0.length + l1.length ≤ 9223372036854775807)
theorem minOK_a {l0 l1 : List S57} (h : minOK l0 l1 = true) : ∀ x ∈ l0, x.f0.size ≤ 48 ∧ -9223372036854775808 ≤ x.f1 ∧ x.f1 ≤ 9223372036854775807 := by
  unfold minOK at h
  simp only [Bool.and_eq_true, List.all_eq_true, decide_eq_true_eq] at h
  intro x hx
  obtain ⟨⟨h1, h2⟩, h3⟩ := h.1.1 x hx
  exact ⟨h1, h2, h3⟩
theorem minOK_b {l0 l1 : List S57} (h : minOK l0 l1 = true) : ∀ x ∈ l1, x.f0.size ≤ 48 := by
  unfold minOK at h
  simp only [Bool.and_eq_true, List.all_eq_true, decide_eq_true_eq] at h
  exact h.1.2
theorem minOK_len {l0 l1 : List S57} (h : minOK l0 l1 = true) : l0.length + l1.length ≤ 9223372036854775807 := by
  unfold minOK at h
  simp only [Bool.and_eq_true, decide_eq_true_eq] at h
  exact h.2
theorem wf_in {v : Int} (h0 : -9223372036854775808 ≤ v) (h1 : v ≤ 9223372036854775807) : (Lit.int .i64 v).wf = true := by
  have := RowKit.wrap64_wf v
  rwa [show wrap64 v = v by unfold wrap64; omega] at this
def quant_Minus.f (k : Nat) (l0 l1 : List S57) : Option (List S57 × Int) :=
  (quant_valid.f k l0 l1).bind fun t => if t = true then (if minOK l0 l1 = true then some (minP l0 l1) else none) else some ([], 31)
theorem quant_Minus.mono : ∀ a0 a1 k, LeO (quant_Minus.f k a0 a1) (quant_Minus.f (k + 1) a0 a1) := by
  intro a0 a1 k
  unfold quant_Minus.f
  exact LeO.bind (quant_valid.mono _ _ _) (fun _ => LeO.refl _)
set_option maxHeartbeats 8000000 in
set_option maxRecDepth 100000 in
theorem quant_Minus.calls (k : Nat) (A0 : Option Addr) (c0 : Nat) (l0 : List S57) (A1 : Option Addr) (c1 : Nat) (l1 : List S57) (r1 : List S57) (r2 : Int) (w : World) (hr0 : Kd.C k57 w A0 l0.length l0) (hc0 : l0.length ≤ c0) (hr1 : Kd.C k57 w A1 l1.length l1) (hc1 : l1.length ≤ c1) (h : quant_Minus.f k l0 l1 = some (r1, r2)) (hG : Glob w) :
    Calls Tryz.prog 42 #[.slice A0 l0.length c0, .slice A1 l1.length c1] w fun e w' => ∃ v0_ : Value, e = .returned (.tuple #[v0_, .int .i64 r2]) ∧ Kd.R k57 57 w' w.heap.size (fun _ => True) v0_ r1 ∧ Below w.heap.size w w' := by
  have hu57 := Tryz.underlying57
  have hmm := @run_makeMap Tryz.prog
  unfold quant_Minus.f at h
  obtain ⟨t, ht, h2⟩ := Option.bind_eq_some_iff.mp h
  clear h
  have HV := Lib.hid (quant_valid.calls k A0 c0 l0 A1 c1 l1 t w hr0 hc0 hr1 hc1 ht hG)
  have HR0 := Aside0.mk hr0
  have HR1 := Aside0.mk hr1
  have hl0 := hr0.2.1
  have hl1 := hr1.2.1
  clear hr0 hr1 hc0 hc1 ht
  cases t with
  | false =>
    rw [if_neg Bool.false_ne_true] at h2
    obtain ⟨rfl, rfl⟩ := Prod.mk.inj (Option.some.inj h2)
    clear h2
    go_enter Tryz.func42, Tryz.ntmps42
    go_wp2_with (go_at_call 73; refine HV.out.mono ?_; rintro e w1 ⟨rfl, hb⟩; have HB := Aside0.mk hb; clear hb)
    go_ret2
    exact ⟨_, rfl, Kd.R_nil _ _ _ _ _, HB.out⟩
  | true =>
    rw [if_pos rfl] at h2
    cases hok : minOK l0 l1 with
    | false => rw [hok, if_neg Bool.false_ne_true] at h2; cases h2
    | true =>
      rw [hok, if_pos rfl] at h2
      have HS := Lib.hid (Option.some.inj h2)
      have HA := Lib.hid (minOK_a hok)
      have HBN := Lib.hid (minOK_b hok)
      have hlen := minOK_len hok
      clear h2 hok
      go_enter Tryz.func42, Tryz.ntmps42
      go_wp2_with (go_at_call 73; refine HV.out.mono ?_; rintro e w1 ⟨rfl, hb⟩; have HB := Aside0.mk hb; have hsz1 := hb.size; clear hb)
      obtain ⟨gm, hgm⟩ : ∃ gm, gm = w1.heap.size := ⟨_, rfl⟩
      have HGM := Lib.hid hgm
      have HOWN0 := Aside0.mk (World.ownsMap_made w1 Tryz.prog 9 (plainElem (H := Unit) Tryz.prog 2))
      have HB0 := Aside0.mk (HB.out.alloc hsz1 (.map #[] 0))
      rw [← hgm] at HOWN0 hsz1
      rw [← hgm]
      clear hgm
      go_loopg [8, 18] l0.length (fun g v8 v18 wr => ∃ (i n : Nat) (D : DataW Unit) (L : List S57), v18 = .int .i64 i ∧ i ≤ l0.length ∧ l0.length ≤ i + g ∧ n ≤ i ∧ Aside0 (wr.ownsMap Tryz.prog 9 (plainElem (H := Unit) Tryz.prog 2) gm n D) ∧ Aside0 (Tells D L) ∧ Aside0 (minA [] l0 = minA L (l0.drop i)) ∧ Aside0 (Below w.heap.size w wr))
      case atStart => exact ⟨0, 0, _, [], rfl, by omega, by omega, by omega, HOWN0, ⟨tells_nil⟩, ⟨rfl⟩, HB0⟩
      case round =>
        clear HOWN0 HB0 HB
        obtain ⟨i, n, D, L, rfl, hin, hig, hnt, HOWN, HT, HGO, HBW⟩ := hrel
        by_cases hlt : i < l0.length
        · cases gk with
          | zero => omega
          | succ g =>
            obtain ⟨ad2, eA2, hy0, hy1⟩ := at_T57 HR0.out (i : Int) (by omega) (by omega)
            cases eA2
            rw [Int.toNat_natCast] at hy0 hy1
            replace hy0 := (HBW.out.cell (World.block_lt_of_cell? w _ hy0)).trans hy0
            replace hy1 := (HBW.out.cell (World.block_lt_of_cell? w _ hy1)).trans hy1
            have hax := HA.out (rd_T57 l0 (i : Int)) (by rw [rd_T57, Int.toNat_natCast, List.getD_eq_getElem?_getD, List.getElem?_eq_getElem hlt]; exact List.getElem_mem hlt)
            have HGO2 := Lib.hid (show minA [] l0 = minA (insS L (rd_T57 l0 (i : Int)).f0 (rd_T57 l0 (i : Int)).f1) (l0.drop (i + 1)) by rw [HGO.out, item_rest l0 i hlt, minA])
            clear HGO
            generalize (rd_T57 l0 (i : Int)).f0 = xs at *
            generalize (rd_T57 l0 (i : Int)).f1 = xv at *
            have h48x := hax.1
            have HWF := Lib.hid (wf_in hax.2.1 hax.2.2)
            clear hax
            have HOWN2 := Aside0.mk (HOWN.out.alloc (.cells #[.string xs, .int .i64 xv] 57))
            have HBQ2 := Aside0.mk (HBW.out.alloc HBW.out.size (.cells #[.string xs, .int .i64 xv] 57))
            have HT3 := Aside0.mk (HT.out.put xs xv)
            go_wp2_with (first
              | (at_mapUpdate; refine wpList_mapUpdate_own _ rfl _ _ _ 98 rfl 9 2 law9 Tryz.underlying98 _ gm n D rfl HOWN2.out (by unfold maxLen; omega) _ _ _ rfl rfl (key48 h48x) _ [] (plainElem_int Tryz.underlying2 HWF.out) ?_; intro w5 hown5 hgrow5)
              | go_in)
            have HB5 := Aside0.mk (HBQ2.out.grown hgrow5 HBQ2.out.size (fun k hk => by cases hk; exact hsz1))
            have HOWN5 := Aside0.mk hown5
            clear hown5 hgrow5
            go_roundg g
            case measure => omega
            case rel => exact ⟨i + 1, n + 1, _, _, by go_num, by omega, by omega, by omega, HOWN5, HT3, ⟨HGO2.out⟩, HB5⟩
        · obtain rfl : i = l0.length := by omega
          have HGO2 := Lib.hid (show minA [] l0 = L by rw [HGO.out, List.drop_length, minA])
          have HS2 := Lib.hid (show (match minB L l1 with | none => ([], 1) | some L => quant_listed.f L) = (r1, r2) by have := HS.out; unfold minP at this; rw [HGO2.out] at this; exact this)
          clear HGO
          go_wp2
          go_loopg [10, 30] l1.length (fun g v10 v30 wq => ∃ (j m : Nat) (E : DataW Unit) (M : List S57), v30 = .int .i64 j ∧ j ≤ l1.length ∧ l1.length ≤ j + g ∧ m ≤ l0.length + j ∧ Aside0 (wq.ownsMap Tryz.prog 9 (plainElem (H := Unit) Tryz.prog 2) gm m E) ∧ Aside0 (Tells E M) ∧ Aside0 (minB L l1 = minB M (l1.drop j)) ∧ Aside0 (Below w.heap.size w wq))
          case atStart => exact ⟨0, n, D, L, rfl, by omega, by omega, by omega, HOWN, HT, ⟨rfl⟩, HBW⟩
          case round =>
            clear HOWN HT
            obtain ⟨j, m, E, M, rfl, hjn, hjg, hmt, HOWN, HT, HGO, HBQ⟩ := hrel
            by_cases hjl : j < l1.length
            · cases gk with
              | zero => omega
              | succ g =>
                obtain ⟨ad2, eA2, hy0, hy1⟩ := at_T57 HR1.out (j : Int) (by omega) (by omega)
                cases eA2
                rw [Int.toNat_natCast] at hy0 hy1
                replace hy0 := (HBQ.out.cell (World.block_lt_of_cell? w _ hy0)).trans hy0
                replace hy1 := (HBQ.out.cell (World.block_lt_of_cell? w _ hy1)).trans hy1
                have h48x := HBN.out (rd_T57 l1 (j : Int)) (by rw [rd_T57, Int.toNat_natCast, List.getD_eq_getElem?_getD, List.getElem?_eq_getElem hjl]; exact List.getElem_mem hjl)
                have HGO3 := Lib.hid (show minB L l1 = if valOf M (rd_T57 l1 (j : Int)).f0 < (rd_T57 l1 (j : Int)).f1 then none else minB (insS M (rd_T57 l1 (j : Int)).f0 (wrap64 (valOf M (rd_T57 l1 (j : Int)).f0 - (rd_T57 l1 (j : Int)).f1))) (l1.drop (j + 1)) by rw [HGO.out, item_rest l1 j hjl, minB])
                clear HGO
                generalize (rd_T57 l1 (j : Int)).f0 = xs at *
                generalize (rd_T57 l1 (j : Int)).f1 = xv at *
                have HOWN2 := Aside0.mk (HOWN.out.alloc (.cells #[.string xs, .int .i64 xv] 57))
                have HBQ2 := Aside0.mk (HBQ.out.alloc HBQ.out.size (.cells #[.string xs, .int .i64 xv] 57))
                by_cases hlow : valOf M xs < xv
                · have h1 := HS2.out
                  rw [HGO3.out, if_pos hlow] at h1
                  obtain ⟨e1, e2⟩ := Prod.mk.inj h1
                  have E1 := Lib.hid e1
                  have E2 := Lib.hid e2
                  have dlow : decide (valOf M xs < xv) = true := decide_eq_true hlow
                  clear h1 e1 e2 hlow HGO3
                  go_wp2_with (first
                    | (at_lookup; refine lookup2 _ rfl _ _ rfl gm m E M HT.out rfl HOWN2.out xs h48x rfl ?_)
                    | go_in)
                  go_ret2
                  refine ⟨.slice none 0 0, ?_, by rw [← E1.out]; exact Kd.R_nil _ _ _ _ _, HBQ2.out⟩
                  rw [← E2.out]
                  try rfl
                · have HGO4 := Lib.hid (show minB L l1 = minB (insS M xs (wrap64 (valOf M xs - xv))) (l1.drop (j + 1)) by rw [HGO3.out, if_neg hlow])
                  have dlow : decide (valOf M xs < xv) = false := decide_eq_false hlow
                  have HT3 := Aside0.mk (HT.out.put xs (wrap64 (valOf M xs - xv)))
                  clear hlow HGO3
                  go_wp2_with (first
                    | (at_lookup; refine lookup2 _ rfl _ _ rfl gm m E M HT.out rfl HOWN2.out xs h48x rfl ?_)
                    | (at_mapUpdate; refine wpList_mapUpdate_own _ rfl _ _ _ 98 rfl 9 2 law9 Tryz.underlying98 _ gm m E rfl HOWN2.out (by unfold maxLen; omega) _ _ _ rfl rfl (key48 h48x) _ [] (plainElem_int Tryz.underlying2 (RowKit.wrap64_wf _)) ?_; intro w5 hown5 hgrow5)
                    | go_in)
                  have HB5 := Aside0.mk (HBQ2.out.grown hgrow5 HBQ2.out.size (fun k hk => by cases hk; exact hsz1))
                  have HOWN5 := Aside0.mk hown5
                  clear hown5 hgrow5
                  go_roundg g
                  case measure => omega
                  case rel => exact ⟨j + 1, m + 1, _, _, by go_num, by omega, by omega, by omega, HOWN5, HT3, ⟨HGO4.out⟩, HB5⟩
            · obtain rfl : j = l1.length := by omega
              have HQ := Lib.hid (show quant_listed.f M = (r1, r2) by have := HS2.out; rw [HGO.out, List.drop_length, minB] at this; exact this)
              clear HGO
              go_wp2_with (go_at_call 74; refine (quant_listed.calls gm m E M r1 r2 _ HOWN.out HT.out HQ.out).mono ?_; rintro e w4 ⟨v4, rfl, ho4, hb4⟩; have HO4 := Aside0.mk (Kd.R_lower ho4 HBQ.out.size); have HB4 := Aside0.mk (below_step HBQ.out hb4); clear ho4 hb4)
              go_ret2
              exact ⟨_, rfl, HO4.out, HB4.out⟩
end Go.Proofs.YtejgbdclhlolkaaGreatDoor.Q
namespace Go.Proofs.YtejgbdclhlolkaaGreatDoor.Q
open Go.RowKit Go.Lib Go.Sort Go.Proofs.YtejgbdclhlolkaaGreatDoorW.PrintWords Go.Proofs.YtejgbdclhlolkaaGreatDoorW.PrintLast
set_option linter.unusedVariables false
set_option linter.unusedSimpArgs false
def flatL (L : List S57) : List Value := (flatK encAm 2 L.toArray).toList
theorem flatL_len (L : List S57) : (flatL L).length = L.length * 2 := flat_len L
theorem flatL_get (L : List S57) (j : Nat) (hj : j < L.length) : (flatL L)[j * 2]? = some (.string (L[j]).f0) ∧ (flatL L)[j * 2 + 1]? = some (.int .i64 (L[j]).f1) := by
  have h0 := flat_get (xs := L) (t := j * 2) (by omega)
  have h1 := flat_get (xs := L) (t := j * 2 + 1) (by omega)
  rw [show j * 2 / 2 = j by omega, show j * 2 % 2 = 0 by omega] at h0
  rw [show (j * 2 + 1) / 2 = j by omega, show (j * 2 + 1) % 2 = 1 by omega] at h1
  have e : L.getD j z57 = L[j] := by rw [List.getD_eq_getElem?_getD, List.getElem?_eq_getElem hj]; rfl
  rw [e] at h0 h1
  exact ⟨h0, h1⟩
theorem flatL_ext {L : List S57} {cs : List Value} (hl : cs.length = L.length * 2) (h : ∀ j (hj : j < L.length), cs[j * 2]? = some (.string (L[j]).f0) ∧ cs[j * 2 + 1]? = some (.int .i64 (L[j]).f1)) : cs = flatL L := by
  apply List.ext_getElem?
  intro t
  by_cases ht : t < L.length * 2
  · have hj : t / 2 < L.length := by omega
    have a := h (t / 2) hj
    have b := flatL_get L (t / 2) hj
    have hm : t = t / 2 * 2 ∨ t = t / 2 * 2 + 1 := by omega
    rcases hm with hm | hm
    · rw [hm, a.1, b.1]
    · rw [hm, a.2, b.2]
  · rw [List.getElem?_eq_none (by omega), List.getElem?_eq_none (by rw [flatL_len]; omega)]
theorem flatL_app (L M : List S57) : flatL (L ++ M) = flatL L ++ flatL M := by
  refine (flatL_ext (by rw [List.length_append, flatL_len, flatL_len, List.length_append]; omega) (fun j hj => ?_)).symm
  by_cases h : j < L.length
  · have := flatL_get L j h
    rw [List.getElem_append_left h, List.getElem?_append_left (by rw [flatL_len]; omega), List.getElem?_append_left (by rw [flatL_len]; omega)]
    exact this
  · have hj2 : j - L.length < M.length := by rw [List.length_append] at hj; omega
    have := flatL_get M (j - L.length) hj2
    rw [List.getElem_append_right (by omega), List.getElem?_append_right (by rw [flatL_len]; omega), List.getElem?_append_right (by rw [flatL_len]; omega), flatL_len]
    rw [show j * 2 - L.length * 2 = (j - L.length) * 2 by omega, show j * 2 + 1 - L.length * 2 = (j - L.length) * 2 + 1 by omega]
    exact this
theorem flatL_set (L : List S57) (j : Nat) (hj : j < L.length) (x : S57) : ((flatL L).set (j * 2) (.string x.f0)).set (j * 2 + 1) (.int .i64 x.f1) = flatL (L.set j x) := by
  refine flatL_ext (by rw [List.length_set, List.length_set, flatL_len, List.length_set]) (fun i hi => ?_)
  rw [List.length_set] at hi
  have b := flatL_get L i hi
  have hl := flatL_len L
  rw [List.getElem_set, List.getElem?_set, List.getElem?_set, List.getElem?_set, List.getElem?_set]
  by_cases e : j = i
  · subst e
    rw [if_pos rfl]
    simp [hl]
    omega
  · rw [if_neg e, if_neg (by omega), if_neg (by omega), if_neg (by omega), if_neg (by omega)]
    exact b
theorem encs_flat {w : World} {base : Nat} {ok : Nat → Prop} {v : Value} {L : List S57} (h : Kd.R k57 57 w base ok v L) : w.ownsRow base 57 2 v L.length (flatL L) := by
  obtain ⟨_, inner, ho, hr⟩ := h
  rw [inner57 hr] at ho
  exact ho
structure Bag (w : World) (base : Nat) (rows : List (Value × List S57)) : Prop where
  own : ∀ p ∈ rows, w.ownsRow base 57 2 p.1 p.2.length (flatL p.2)
  apart : rows.Pairwise fun p q => ∀ g, p.1.ownBlock = some g → q.1.ownBlock ≠ some g
theorem Bag.nil (w : World) (base : Nat) : Bag w base [] := ⟨fun p hp => (by simp at hp), List.Pairwise.nil⟩
theorem Bag.below {w w' : World} {base : Nat} {rows : List (Value × List S57)} (h : Bag w base rows) (hb : Below w.heap.size w w') : Bag w' base rows :=
  ⟨fun p hp => own_move (h.own p hp) (fun k hk => hb.block k (own_lt (h.own p hp) k hk)), h.apart⟩
theorem Bag.snoc {w w' : World} {base : Nat} {rows : List (Value × List S57)} {v : Value} {L : List S57} (h : Bag w base rows) (hb : Below w.heap.size w w') (hbase : base ≤ w.heap.size) (hr : Kd.R k57 57 w' w.heap.size (fun _ => True) v L) : Bag w' base (rows ++ [(v, L)]) := by
  have ho := encs_flat hr
  refine ⟨fun p hp => ?_, ?_⟩
  · rcases List.mem_append.1 hp with hp | hp
    · exact (h.below hb).own p hp
    · obtain rfl := List.mem_singleton.1 hp
      exact own_weaken ho hbase
  · rw [List.pairwise_append]
    refine ⟨h.apart, List.pairwise_singleton _ _, fun p hp q hq g hg hg' => ?_⟩
    obtain rfl := List.mem_singleton.1 hq
    have h1 := own_lt (h.own p hp) g hg
    have h2 := own_base ho g hg'
    omega
theorem Bag.cell {w : World} {base g t : Nat} {cs : Array Value} {rows : List (Value × List S57)} (h : Bag w base rows) (hb : w.heap[g]? = some (.cells cs t (0, 0))) (ht : 57 ≠ t) (j : Nat) (u : Value) : Bag (w.setCell ⟨g, j, none⟩ u) base rows :=
  ⟨fun p hp => own_setCell (h.own p hp) (own_ne (h.own p hp) hb ht) u, h.apart⟩
theorem Bag.get {w : World} {base : Nat} {rows : List (Value × List S57)} (h : Bag w base rows) {i : Nat} {v : Value} {L : List S57} (hi : rows[i]? = some (v, L)) : w.ownsRow base 57 2 v L.length (flatL L) := h.own (v, L) (List.mem_of_getElem? hi)
theorem Bag.turn {w w' : World} {base : Nat} {rows : List (Value × List S57)} (h : Bag w base rows) {i : Nat} {v v' : Value} {L L' : List S57} (hi : rows[i]? = some (v, L)) (hown : w'.ownsRow base 57 2 v' L'.length (flatL L')) (hg : w.grownBy w' v.ownBlock) (hat : v'.ownBlock = v.ownBlock ∨ ∃ b, v'.ownBlock = some b ∧ w.heap.size ≤ b) : Bag w' base (rows.set i (v', L')) := by
  have hil : i < rows.length := (List.getElem?_eq_some_iff.1 hi).1
  have hiv : rows[i] = (v, L) := (List.getElem?_eq_some_iff.1 hi).2
  have hne : ∀ j (hj : j < rows.length), j ≠ i → ∀ g, (rows[j]).1.ownBlock = some g → v.ownBlock ≠ some g := by
    intro j hj hji g hgj hgv
    rcases Nat.lt_or_gt_of_ne hji with hlt | hgt
    · have := List.pairwise_iff_getElem.1 h.apart j i hj hil hlt g hgj
      rw [hiv] at this
      exact this hgv
    · have := List.pairwise_iff_getElem.1 h.apart i j hil hj hgt g (by rw [hiv]; exact hgv)
      exact this hgj
  have hlt : ∀ j (hj : j < rows.length), ∀ g, (rows[j]).1.ownBlock = some g → g < w.heap.size := fun j hj g hg => own_lt (h.own _ (List.getElem_mem hj)) g hg
  have hne' : ∀ j (hj : j < rows.length), j ≠ i → ∀ g, (rows[j]).1.ownBlock = some g → v'.ownBlock ≠ some g := by
    intro j hj hji g hgj hgv
    rcases hat with e | ⟨b, e, hb⟩
    · exact hne j hj hji g hgj (by rw [← e]; exact hgv)
    · rw [hgv] at e
      have := hlt j hj g hgj
      have : g = b := Option.some.inj e
      omega
  refine ⟨fun p hp => ?_, ?_⟩
  · obtain ⟨j, hj, rfl⟩ := List.mem_iff_getElem.1 hp
    rw [List.length_set] at hj
    rw [List.getElem_set]
    by_cases e : i = j
    · rw [if_pos e]; exact hown
    · rw [if_neg e]
      exact own_move (h.own _ (List.getElem_mem hj)) (fun k hk => hg.block k (hlt j hj k hk) (fun e2 => hne j hj (fun e3 => e e3.symm) k hk e2.symm))
  · rw [List.pairwise_iff_getElem]
    intro a b ha hb hab g hga hgb
    rw [List.length_set] at ha hb
    rw [List.getElem_set] at hga hgb
    by_cases ea : i = a
    · rw [if_pos ea] at hga
      rw [if_neg (by omega)] at hgb
      exact hne' b hb (by omega) g hgb hga
    · rw [if_neg ea] at hga
      by_cases eb : i = b
      · rw [if_pos eb] at hgb
        exact hne' a ha (by omega) g hga hgb
      · rw [if_neg eb] at hgb
        exact List.pairwise_iff_getElem.1 h.apart a b ha hb hab g hga hgb
theorem own_form {w : World} {base : Nat} {v : Value} {L : List S57} (h : w.ownsRow base 57 2 v L.length (flatL L)) {j : Nat} (hj : j < L.length) : ∃ g cap cur, v = .slice (some ⟨g, 0, none⟩) L.length cap ∧ w.heap[g]? = some (.cells cur 57 (0, 0)) ∧ w.cell? ⟨g, j * 2, none⟩ = some (.string (L[j]).f0) ∧ w.cell? ⟨g, j * 2 + 1, none⟩ = some (.int .i64 (L[j]).f1) ∧ L.length ≤ cap := by
  rcases h.2 with ⟨_, h0⟩ | ⟨g, cap, cur, hv, hb, hh, hc, hm, hs, ht⟩
  · omega
  · refine ⟨g, cap, cur, hv, hh, ?_, ?_, hc⟩
    · rw [blk_cell hh, ← Array.getElem?_toList]
      have := (flatL_get L j hj).1
      rw [← ht, List.getElem?_take_of_lt (by omega)] at this
      exact this
    · rw [blk_cell hh, ← Array.getElem?_toList]
      have := (flatL_get L j hj).2
      rw [← ht, List.getElem?_take_of_lt (by omega)] at this
      exact this
theorem own_form2 {w : World} {base : Nat} {A : Option Addr} {n c : Nat} {L : List S57} (h : w.ownsRow base 57 2 (.slice A n c) L.length (flatL L)) {j : Nat} (hj : j < L.length) : ∃ g s z, A = some ⟨g, 0, none⟩ ∧ w.cell? ⟨g, j * 2, none⟩ = some (.string s) ∧ w.cell? ⟨g, j * 2 + 1, none⟩ = some (.int .i64 z) ∧ w.frozen? ⟨g, j * 2, none⟩ = false ∧ w.frozen? ⟨g, j * 2 + 1, none⟩ = false := by
  obtain ⟨g, cap, cur, hv, hh, h0, h1, _⟩ := own_form h hj
  injection hv with hv1 _ _
  exact ⟨g, _, _, hv1, h0, h1, blk_frozen hh _, blk_frozen hh _⟩
theorem Bag.put {w : World} {base : Nat} {rows : List (Value × List S57)} (h : Bag w base rows) {i : Nat} {g c : Nat} {L : List S57} (hi : rows[i]? = some (.slice (some ⟨g, 0, none⟩) L.length c, L)) (j : Nat) (hj : j < L.length) (x : S57) :
    Bag ((w.setCell ⟨g, j * 2, none⟩ (.string x.f0)).setCell ⟨g, j * 2 + 1, none⟩ (.int .i64 x.f1)) base (rows.set i (.slice (some ⟨g, 0, none⟩) L.length c, L.set j x)) := by
  have ho := h.get hi
  rcases ho.2 with ⟨e, _⟩ | ⟨g', cap, cur, hv, hb, hh, hc, hm, hs, ht⟩
  · cases e
  injection hv with hv1 hv2 hv3
  injection hv1 with hv1
  injection hv1 with hv1
  subst hv1
  subst hv3
  have h1 := blk_set hh (j * 2) (.string x.f0)
  have h2 := blk_set h1 (j * 2 + 1) (.int .i64 x.f1)
  refine h.turn hi ?_ ⟨rfl, rfl, rfl, by simp, fun k hk hne => ?_⟩ (.inl rfl)
  · refine ⟨by rw [flatL_len, List.length_set], .inr ⟨g, c, _, by rw [List.length_set], hb, h2, by rw [List.length_set]; exact hc, hm, by simp [hs], ?_⟩⟩
    rw [Array.toList_setIfInBounds, Array.toList_setIfInBounds, List.length_set, List.take_set, List.take_set, ht]
    exact flatL_set L j hj x
  · have hkg : k ≠ g := fun e => hne (by rw [e]; rfl)
    rw [Below.heap_setCell _ _ _ k hkg, Below.heap_setCell _ _ _ k hkg]
theorem Bag.reads {w : World} {base : Nat} {rows : List (Value × List S57)} (h : Bag w base rows) {i n c : Nat} {A : Option Addr} {L : List S57} (hi : rows[i]? = some (.slice A n c, L)) : n = L.length ∧ n ≤ c ∧ Kd.C k57 w A L.length L :=
  Kd.R_reads' (e := 57) (base := base) (ok := fun _ => True) ⟨fun _ _ => trivial, _, h.get hi, reps57 _ _ _ _⟩
theorem Bag.cut {w : World} {base : Nat} {rows : List (Value × List S57)} (h : Bag w base rows) {i n c : Nat} {A : Option Addr} {X : List S57} (hi : rows[i]? = some (.slice A n c, X ++ [markS])) : Kd.C k57 w A X.length X ∧ X.length ≤ c := by
  obtain ⟨h1, h2, h3⟩ := h.reads hi
  rw [List.length_append] at h1
  have := Kd.C_take (m := X.length) h3 (by rw [List.length_append]; omega)
  rw [List.take_left' rfl] at this
  exact ⟨this, by omega⟩
theorem Bag.slice {w : World} {base : Nat} {rows : List (Value × List S57)} (h : Bag w base rows) {i : Nat} {v : Value} {L : List S57} (hi : rows[i]? = some (v, L)) : ∃ A c, v = .slice A L.length c :=
  Kd.R_slice (d := k57) (e := 57) (base := base) (ok := fun _ => True) (w := w) ⟨fun _ _ => trivial, _, h.get hi, reps57 _ _ _ _⟩
theorem drew_below (w : World) : Below w.heap.size w w.drew := below_drew1 (Below.refl _ _)
structure ST (w0 w : World) (g7 : Nat) (cs : Array Value) (rows : List (Value × List S57)) : Prop where
  b : Below w0.heap.size w0 w
  ar : w.heap[g7]? = some (.cells cs 59 (0, 0))
  bag : Bag w w0.heap.size rows
  ge : w0.heap.size ≤ g7
theorem ST.below {w0 w w' : World} {g7 : Nat} {cs : Array Value} {rows : List (Value × List S57)} (h : ST w0 w g7 cs rows) (hb : Below w.heap.size w w') : ST w0 w' g7 cs rows :=
  ⟨below_step h.b hb, blk_below h.ar hb, h.bag.below hb, h.ge⟩
theorem ST.call {w0 w w' : World} {g7 : Nat} {cs : Array Value} {rows : List (Value × List S57)} {v : Value} {L : List S57} (h : ST w0 w g7 cs rows) (hr : Kd.R k57 57 w' w.heap.size (fun _ => True) v L) (hb : Below w.heap.size w w') : ST w0 w' g7 cs (rows ++ [(v, L)]) :=
  ⟨below_step h.b hb, blk_below h.ar hb, h.bag.snoc hb (below_size h.b) hr, h.ge⟩
theorem ST.store {w0 w : World} {g7 : Nat} {cs cs' : Array Value} {rows : List (Value × List S57)} (h : ST w0 w g7 cs rows) (j : Nat) (u : Value) (e : cs.setIfInBounds j u = cs') : ST w0 (w.setCell ⟨g7, j, none⟩ u) g7 cs' rows :=
  ⟨below_set h.b h.ge, blk_put h.ar j u e, h.bag.cell h.ar (by decide) j u, h.ge⟩
def wS (m : Nat) : S57 := ⟨⟨#[119]⟩, 100 + (m : Int)⟩
def csAt (Ls : List (List S57)) (i j : Nat) : List (List S57) := (List.range 6).map fun m => if m < i then List.replicate (Ls.getD m []).length (wS m) else if m = i then List.replicate j (wS m) ++ (Ls.getD m []).drop j else Ls.getD m []
def zsAt (Ls : List (List S57)) (i : Nat) : List Value := (List.range 6).map fun m => .int .i64 (if m < i then ((Ls.getD m []).length : Int) else 0)
theorem csAt_len (Ls : List (List S57)) (i j : Nat) : (csAt Ls i j).length = 6 := by simp [csAt]
theorem zsAt_len (Ls : List (List S57)) (i : Nat) : (zsAt Ls i).length = 6 := by simp [zsAt]
theorem csAt_get (Ls : List (List S57)) (i j m : Nat) (hm : m < 6) : (csAt Ls i j)[m]? = some (if m < i then List.replicate (Ls.getD m []).length (wS m) else if m = i then List.replicate j (wS m) ++ (Ls.getD m []).drop j else Ls.getD m []) := by
  unfold csAt
  rw [List.getElem?_map, List.getElem?_range hm]
  rfl
theorem zsAt_get (Ls : List (List S57)) (i m : Nat) (hm : m < 6) : (zsAt Ls i)[m]? = some (.int .i64 (if m < i then ((Ls.getD m []).length : Int) else 0)) := by
  unfold zsAt
  rw [List.getElem?_map, List.getElem?_range hm]
  rfl
theorem csAt_zero (Ls : List (List S57)) (h : Ls.length = 6) : csAt Ls 0 0 = Ls := by
  apply List.ext_getElem?
  intro m
  by_cases hm : m < 6
  · rw [csAt_get Ls 0 0 m hm, if_neg (by omega), List.getElem?_eq_getElem (by omega), List.getD_eq_getElem?_getD, List.getElem?_eq_getElem (by omega)]
    by_cases h0 : m = 0
    · rw [if_pos h0]; rfl
    · rw [if_neg h0]; rfl
  · rw [List.getElem?_eq_none (by rw [csAt_len]; omega), List.getElem?_eq_none (by omega)]
theorem csAt_next (Ls : List (List S57)) (i : Nat) : csAt Ls i (Ls.getD i []).length = csAt Ls (i + 1) 0 := by
  apply List.ext_getElem?
  intro m
  by_cases hm : m < 6
  · rw [csAt_get Ls _ _ m hm, csAt_get Ls _ _ m hm]
    congr 1
    rcases Nat.lt_trichotomy m i with h | h | h
    · rw [if_pos h, if_pos (by omega)]
    · subst h
      rw [if_neg (by omega), if_pos rfl, if_pos (by omega), List.drop_length, List.append_nil]
    · rw [if_neg (by omega), if_neg (by omega), if_neg (by omega)]
      by_cases h2 : m = i + 1
      · rw [if_pos h2]; rfl
      · rw [if_neg h2]
  · rw [List.getElem?_eq_none (by rw [csAt_len]; omega), List.getElem?_eq_none (by rw [csAt_len]; omega)]
theorem csAt_row (Ls : List (List S57)) (i j : Nat) (hi : i < 6) (hj : j ≤ (Ls.getD i []).length) : ∃ L, (csAt Ls i j)[i]? = some L ∧ L.length = (Ls.getD i []).length ∧ (j < (Ls.getD i []).length → (csAt Ls i j).set i (L.set j (wS i)) = csAt Ls i (j + 1)) := by
  refine ⟨_, csAt_get Ls i j i hi, ?_, fun hlt => ?_⟩
  · rw [if_neg (Nat.lt_irrefl _), if_pos rfl, List.length_append, List.length_replicate, List.length_drop]; omega
  · rw [if_neg (Nat.lt_irrefl _), if_pos rfl]
    apply List.ext_getElem?
    intro m
    by_cases hm : m < 6
    · rw [List.getElem?_set, csAt_get Ls i j m hm, csAt_get Ls i (j + 1) m hm]
      by_cases e : i = m
      · subst e
        rw [if_pos rfl, if_pos (by rw [csAt_len]; exact hi), if_neg (Nat.lt_irrefl _), if_pos rfl]
        congr 1
        generalize Ls.getD i [] = M at *
        rw [List.set_append_right _ _ (by rw [List.length_replicate]; exact Nat.le_refl _), List.length_replicate, Nat.sub_self, List.drop_eq_getElem_cons hlt]
        show List.replicate j (wS i) ++ wS i :: M.drop (j + 1) = _
        rw [List.replicate_succ', List.append_assoc]
        rfl
      · rw [if_neg e]
        by_cases h1 : m < i
        · rw [if_pos h1, if_pos h1]
        · rw [if_neg h1, if_neg h1, if_neg (fun h => e h.symm), if_neg (fun h => e h.symm)]
    · rw [List.getElem?_eq_none (by rw [List.length_set, csAt_len]; omega), List.getElem?_eq_none (by rw [csAt_len]; omega)]
theorem zsAt_next (Ls : List (List S57)) (i : Nat) (hi : i < 6) : (zsAt Ls i).toArray.setIfInBounds i (.int .i64 ((Ls.getD i []).length : Int)) = (zsAt Ls (i + 1)).toArray := by
  rw [List.setIfInBounds_toArray]
  congr 1
  apply List.ext_getElem?
  intro m
  by_cases hm : m < 6
  · rw [List.getElem?_set, zsAt_get Ls i m hm, zsAt_get Ls (i + 1) m hm, zsAt_len]
    by_cases e : i = m
    · subst e
      rw [if_pos rfl, if_pos hi, if_pos (by omega)]
    · rw [if_neg e]
      by_cases h1 : m < i
      · rw [if_pos h1, if_pos (by omega)]
      · rw [if_neg h1, if_neg (by omega)]
  · rw [List.getElem?_eq_none (by rw [List.length_set, zsAt_len]; omega), List.getElem?_eq_none (by rw [zsAt_len]; omega)]
structure SU (w0 w : World) (g7 g8 : Nat) (x y : Value × List S57) (vs : List Value) (zs : List Value) (Cs : List (List S57)) : Prop where
  b : Below w0.heap.size w0 w
  ar : w.heap[g7]? = some (.cells vs.toArray 59 (0, 0))
  ar8 : w.heap[g8]? = some (.cells zs.toArray 61 (0, 0))
  bag : Bag w w0.heap.size (x :: y :: vs.zip Cs)
  ge : w0.heap.size ≤ g7
  ge8 : w0.heap.size ≤ g8
theorem SU.below {w0 w w' : World} {g7 g8 : Nat} {x y : Value × List S57} {vs zs : List Value} {Cs : List (List S57)} (h : SU w0 w g7 g8 x y vs zs Cs) (hb : Below w.heap.size w w') : SU w0 w' g7 g8 x y vs zs Cs :=
  ⟨below_step h.b hb, blk_below h.ar hb, blk_below h.ar8 hb, h.bag.below hb, h.ge, h.ge8⟩
theorem SU.size {w0 w : World} {g7 g8 : Nat} {x y : Value × List S57} {vs zs zs' : List Value} {Cs : List (List S57)} (h : SU w0 w g7 g8 x y vs zs Cs) (j : Nat) (u : Value) (e : zs.toArray.setIfInBounds j u = zs'.toArray) : SU w0 (w.setCell ⟨g8, j, none⟩ u) g7 g8 x y vs zs' Cs :=
  ⟨below_set h.b h.ge8, blk_far h.ar (blk_ne h.ar h.ar8 (by decide)) _, blk_put h.ar8 j u e, h.bag.cell h.ar8 (by decide) j u, h.ge, h.ge8⟩
theorem SU.row {w0 w : World} {g7 g8 : Nat} {x y : Value × List S57} {vs zs : List Value} {Cs : List (List S57)} (h : SU w0 w g7 g8 x y vs zs Cs) {i : Nat} {v : Value} {L : List S57} (hv : vs[i]? = some v) (hL : Cs[i]? = some L) : (x :: y :: vs.zip Cs)[i + 2]? = some (v, L) := by
  show (vs.zip Cs)[i]? = _
  rw [List.getElem?_zip_eq_some]
  exact ⟨hv, hL⟩
theorem zip_set2 {α β : Type} (vs : List α) (Cs : List β) (i : Nat) (v : α) (L : β) (hv : vs[i]? = some v) : (vs.zip Cs).set i (v, L) = vs.zip (Cs.set i L) := by
  apply List.ext_getElem?
  intro m
  rw [List.getElem?_set]
  by_cases e : i = m
  · subst e
    rw [if_pos rfl, List.length_zip]
    have hi := (List.getElem?_eq_some_iff.1 hv).1
    by_cases hc : i < Cs.length
    · rw [if_pos (by omega)]
      symm
      rw [List.getElem?_zip_eq_some]
      exact ⟨hv, by rw [List.getElem?_set, if_pos rfl, if_pos hc]⟩
    · rw [if_neg (by omega), List.getElem?_eq_none (by rw [List.length_zip, List.length_set]; omega)]
  · rw [if_neg e]
    apply Option.ext
    intro p
    rw [List.getElem?_zip_eq_some, List.getElem?_zip_eq_some, List.getElem?_set, if_neg e]
theorem SU.put {w0 w : World} {g7 g8 : Nat} {x y : Value × List S57} {vs zs : List Value} {Cs Cs' : List (List S57)} (h : SU w0 w g7 g8 x y vs zs Cs) {i g N c : Nat} {L : List S57} (hv : vs[i]? = some (.slice (some ⟨g, 0, none⟩) N c)) (hL : Cs[i]? = some L) (hn : L.length = N) (j : Nat) (hj : j < N) (z : S57) (e : Cs.set i (L.set j z) = Cs') :
    SU w0 ((w.setCell ⟨g, j * 2, none⟩ (.string z.f0)).setCell ⟨g, j * 2 + 1, none⟩ (.int .i64 z.f1)) g7 g8 x y vs zs Cs' := by
  subst hn
  have hrow := h.row hv hL
  have ho := h.bag.get hrow
  have hg := own_base ho g rfl
  obtain ⟨cells, hh⟩ := own_typed ho g rfl
  have n7 := blk_ne h.ar hh (by decide)
  have n8 := blk_ne h.ar8 hh (by decide)
  have hb := h.bag.put hrow j hj z
  refine ⟨below_set (below_set h.b hg) hg, blk_far (blk_far h.ar n7 _) n7 _, blk_far (blk_far h.ar8 n8 _) n8 _, ?_, h.ge, h.ge8⟩
  rw [← e, ← zip_set2 vs Cs i _ (L.set j z) hv]
  exact hb
def vS (m : Nat) : S57 := ⟨⟨#[118]⟩, 200 + (m : Int)⟩
def dsAt (Ls : List (List S57)) (i : Nat) : List (List S57) := (List.range 6).map fun m => List.replicate (Ls.getD m []).length (wS m) ++ (if m < i then [vS m, markS] else [])
theorem dsAt_len (Ls : List (List S57)) (i : Nat) : (dsAt Ls i).length = 6 := by simp [dsAt]
theorem dsAt_get (Ls : List (List S57)) (i m : Nat) (hm : m < 6) : (dsAt Ls i)[m]? = some (List.replicate (Ls.getD m []).length (wS m) ++ (if m < i then [vS m, markS] else [])) := by
  unfold dsAt
  rw [List.getElem?_map, List.getElem?_range hm]
  rfl
theorem csAt_full (Ls : List (List S57)) : csAt Ls 6 0 = dsAt Ls 0 := by
  apply List.ext_getElem?
  intro m
  by_cases hm : m < 6
  · rw [csAt_get Ls 6 0 m hm, dsAt_get Ls 0 m hm, if_pos hm, if_neg (Nat.not_lt_zero m), List.append_nil]
  · rw [List.getElem?_eq_none (by rw [csAt_len]; omega), List.getElem?_eq_none (by rw [dsAt_len]; omega)]
theorem dsAt_next (Ls : List (List S57)) (i : Nat) (hi : i < 6) : (dsAt Ls i).set i (List.replicate (Ls.getD i []).length (wS i) ++ [vS i, markS]) = dsAt Ls (i + 1) := by
  apply List.ext_getElem?
  intro m
  by_cases hm : m < 6
  · rw [List.getElem?_set, dsAt_get Ls i m hm, dsAt_get Ls (i + 1) m hm, dsAt_len]
    by_cases e : i = m
    · subst e
      rw [if_pos rfl, if_pos hi, if_pos (Nat.lt_succ_self i)]
    · rw [if_neg e]
      by_cases h1 : m < i
      · rw [if_pos h1, if_pos (by omega)]
      · rw [if_neg h1, if_neg (by omega)]
  · rw [List.getElem?_eq_none (by rw [List.length_set, dsAt_len]; omega), List.getElem?_eq_none (by rw [dsAt_len]; omega)]
theorem zip_set3 {α β : Type} (vs : List α) (Cs : List β) (i : Nat) (v : α) (L : β) (hi : i < vs.length) : (vs.zip Cs).set i (v, L) = (vs.set i v).zip (Cs.set i L) := by
  apply List.ext_getElem?
  intro m
  rw [List.getElem?_set]
  by_cases e : i = m
  · subst e
    rw [if_pos rfl, List.length_zip]
    by_cases hc : i < Cs.length
    · rw [if_pos (by omega)]
      symm
      rw [List.getElem?_zip_eq_some]
      exact ⟨by rw [List.getElem?_set, if_pos rfl, if_pos hi], by rw [List.getElem?_set, if_pos rfl, if_pos hc]⟩
    · rw [if_neg (by omega), List.getElem?_eq_none (by rw [List.length_zip, List.length_set, List.length_set]; omega)]
  · rw [if_neg e]
    apply Option.ext
    intro p
    rw [List.getElem?_zip_eq_some, List.getElem?_zip_eq_some, List.getElem?_set, if_neg e, List.getElem?_set, if_neg e]
structure SV (w0 w : World) (g7 g8 : Nat) (x y : Value × List S57) (vs : List Value) (zs : List Value) (i : Nat) (v' : Value) (Cs : List (List S57)) : Prop where
  b : Below w0.heap.size w0 w
  ar : w.heap[g7]? = some (.cells vs.toArray 59 (0, 0))
  ar8 : w.heap[g8]? = some (.cells zs.toArray 61 (0, 0))
  bag : Bag w w0.heap.size (x :: y :: (vs.set i v').zip Cs)
  ge : w0.heap.size ≤ g7
  ge8 : w0.heap.size ≤ g8
theorem SU.app {w0 w w' : World} {g7 g8 : Nat} {x y : Value × List S57} {vs zs : List Value} {Cs : List (List S57)} (h : SU w0 w g7 g8 x y vs zs Cs) {i g n cap : Nat} {v : Value} {L L' : List S57} (hv : vs[i]? = some v) (hL : Cs[i]? = some L)
    (hn : n = L'.length) (hown : w'.ownsRow w0.heap.size 57 2 (.slice (some ⟨g, 0, none⟩) n cap) n (flatL L')) (hg : w.grownBy w' v.ownBlock) (hat : v.ownBlock = some g ∨ g = w.heap.size) : SV w0 w' g7 g8 x y vs zs i (.slice (some ⟨g, 0, none⟩) n cap) (Cs.set i L') := by
  subst hn
  have hrow := h.row hv hL
  have ho := h.bag.get hrow
  refine ⟨h.b.grown hg (below_size h.b) (own_base ho), blk_grown h.ar hg (own_ne ho h.ar (by decide)), blk_grown h.ar8 hg (own_ne ho h.ar8 (by decide)), ?_, h.ge, h.ge8⟩
  have := h.bag.turn hrow hown hg (by
    rcases hat with e | e
    · exact .inl e.symm
    · exact .inr ⟨g, rfl, by omega⟩)
  rw [← zip_set3 vs Cs i _ _ (List.getElem?_eq_some_iff.1 hv).1]
  exact this
theorem SV.store {w0 w : World} {g7 g8 i : Nat} {x y : Value × List S57} {vs zs : List Value} {v' : Value} {Cs : List (List S57)} (h : SV w0 w g7 g8 x y vs zs i v' Cs) : SU w0 (w.setCell ⟨g7, i, none⟩ v') g7 g8 x y (vs.set i v') zs Cs :=
  ⟨below_set h.b h.ge, blk_put h.ar i v' (by rw [List.setIfInBounds_toArray]), blk_far h.ar8 (blk_ne h.ar8 h.ar (by decide)) _, h.bag.cell h.ar (by decide) i v', h.ge, h.ge8⟩
theorem flat_behind (i : Nat) : ([.string ⟨#[118]⟩, .int .i64 (200 + (i : Int)), .string ⟨#[109, 97, 114, 107]⟩, .int .i64 77] : List Value) = flatL [vS i, markS] := by
  refine flatL_ext rfl (fun j hj => ?_)
  obtain rfl | rfl : j = 0 ∨ j = 1 := by simp at hj; omega
  · exact ⟨rfl, rfl⟩
  · exact ⟨rfl, rfl⟩
theorem own_form3 {w : World} {base : Nat} {A : Option Addr} {n c : Nat} {L : List S57} {x : S57} (h : w.ownsRow base 57 2 (.slice A n c) L.length (flatL L)) {j : Nat} (hx : L[j]? = some x) : ∃ g, A = some ⟨g, 0, none⟩ ∧ w.cell? ⟨g, j * 2, none⟩ = some (.string x.f0) ∧ w.cell? ⟨g, j * 2 + 1, none⟩ = some (.int .i64 x.f1) := by
  obtain ⟨hj, rfl⟩ := List.getElem?_eq_some_iff.1 hx
  obtain ⟨g, cap, cur, hv, hh, h0, h1, _⟩ := own_form h hj
  injection hv with hv1 _ _
  exact ⟨g, hv1, h0, h1⟩
theorem ds_low (i N j : Nat) (h : j < N) : (List.replicate N (wS i) ++ [vS i, markS])[j]? = some (wS i) := by
  rw [List.getElem?_append_left (by rw [List.length_replicate]; exact h), List.getElem?_replicate, if_pos h]
theorem ds_high (i N : Nat) : (List.replicate N (wS i) ++ [vS i, markS])[N]? = some (vS i) := by
  rw [List.getElem?_append_right (by rw [List.length_replicate]; exact Nat.le_refl _), List.length_replicate, Nat.sub_self]
  rfl
end Go.Proofs.YtejgbdclhlolkaaGreatDoor.Q
namespace Go.Proofs.YtejgbdclhlolkaaGreatDoor.Q
open Go.RowKit Go.Lib Go.Sort Go.Proofs.YtejgbdclhlolkaaGreatDoorW.PrintWords Go.Proofs.YtejgbdclhlolkaaGreatDoorW.PrintLast Go.Proofs.YtejgbdclhlolkaaGreatDoorW.PrintMore
attribute [local go_sem high] eqA57
set_option linter.unusedVariables false
set_option linter.unusedSimpArgs false
theorem behind_at {A : Option Addr} {c : Nat} {l X : List S57} (hX : X = l ++ [markS]) (w : World) (hr : Kd.C k57 w A l.length l) (hc : l.length ≤ c) (hl : l.length ≤ 4000000000) (hG : GlobM w) :
    Calls Tryz.prog 29 #[.slice A l.length c] w fun e w' => ∃ v0_ : Value, e = .returned (v0_) ∧ Kd.R k57 57 w' w.heap.size (fun _ => True) v0_ X ∧ Below w.heap.size w w' := by
  subst hX
  exact bursarlaw03_behind.calls A c l _ w hr hc (if_pos hl) hG
theorem Bag.cutX {w : World} {base : Nat} {rows : List (Value × List S57)} (h : Bag w base rows) {i n c : Nat} {A : Option Addr} {X l : List S57} (hX : X = l ++ [markS]) (hi : rows[i]? = some (.slice A n c, X)) : Kd.C k57 w A l.length l ∧ l.length ≤ c := by
  subst hX
  exact h.cut hi
theorem minus_nil (k : Nat) (A : Option Addr) (c : Nat) (l d : List S57) (ed : Int) (w : World) (hr : Kd.C k57 w A l.length l) (hc : l.length ≤ c) (h : quant_Minus.f k l [] = some (d, ed)) (hG : Glob w) :
    Calls Tryz.prog 42 #[.slice A l.length c, .slice none 0 0] w fun e w' => ∃ v0_ : Value, e = .returned (.tuple #[v0_, .int .i64 ed]) ∧ Kd.R k57 57 w' w.heap.size (fun _ => True) v0_ d ∧ Below w.heap.size w w' :=
  quant_Minus.calls k A c l none 0 [] d ed w hr hc ⟨rfl, by decide, fun h => absurd h (by decide)⟩ (Nat.le_refl _) h hG
set_option maxHeartbeats 8000000 in
set_option maxRecDepth 100000 in
theorem apart_walk (k : Nat) (A0 : Option Addr) (c0 : Nat) (l0 : List S57) (A1 : Option Addr) (c1 : Nat) (l1 : List S57) (n p m d : List S57) (en ep em ed : Int) (w : World) (hr0 : Kd.C k57 w A0 l0.length l0) (hc0 : l0.length ≤ c0) (hr1 : Kd.C k57 w A1 l1.length l1) (hc1 : l1.length ≤ c1)
    (hl0 : l0.length ≤ 4000000) (hl1 : l1.length ≤ 4000000) (hk : bursarlaw03_known.f k = some true) (hn : quant_Normal.f k l0 = some (n, en)) (hp : quant_Plus.f k l0 l1 = some (p, ep)) (hm : quant_Minus.f k l0 l1 = some (m, em)) (hd : quant_Minus.f k l0 [] = some (d, ed))
    (hln : n.length ≤ 4000000 ∧ p.length ≤ 4000000 ∧ m.length ≤ 4000000 ∧ d.length ≤ 4000000) (hux : bursarlaw03_untouched.f k (l0 ++ [markS]) l0 = some true) (huy : bursarlaw03_untouched.f k (l1 ++ [markS]) l1 = some true) (hG : GlobM w) :
    Calls Tryz.prog 13 #[.slice A0 l0.length c0, .slice A1 l1.length c1] w fun e w' => e = .returned (.bool true) ∧ Below w.heap.size w w' := by
  obtain ⟨X, hX⟩ : ∃ X, X = l0 ++ [markS] := ⟨_, rfl⟩
  obtain ⟨Y, hY⟩ : ∃ Y, Y = l1 ++ [markS] := ⟨_, rfl⟩
  rw [← hX] at hux
  rw [← hY] at huy
  have hXl : X.length = l0.length + 1 := by rw [hX, List.length_append]; rfl
  have hYl : Y.length = l1.length + 1 := by rw [hY, List.length_append]; rfl
  have HX := Lib.hid hX
  have HY := Lib.hid hY
  have HXL := Lib.hid hXl
  have HYL := Lib.hid hYl
  clear hX hY hXl hYl
  have hu57 := Tryz.underlying57
  have hu46 := Tryz.underlying46
  have HK := Lib.hid hk
  have HLN := Lib.hid hln
  clear hln
  have HN := Lib.hid hn
  have HP := Lib.hid hp
  have HM := Lib.hid hm
  have HD := Lib.hid hd
  have HUX := Lib.hid hux
  have HUY := Lib.hid huy
  have HL0 := Lib.hid hl0
  have HL1 := Lib.hid hl1
  have HR0 := Aside0.mk hr0
  have HR1 := Aside0.mk hr1
  have HG := Lib.hid hG
  clear hk hn hp hm hd hux huy hr0 hr1 hG hl0 hl1
  have hq0 : (0 : Int) ≤ (l0.length : Int) := by omega
  have hq1 : (0 : Int) ≤ (l1.length : Int) := by omega
  obtain ⟨i0, hi0, hz0, hz1, hz2⟩ := info_parts info57
  have HI := Lib.hid hi0
  have HZ := Lib.hid (And.intro hz0 (And.intro hz1 hz2))
  clear hi0 hz0 hz1 hz2
  go_enter Tryz.func13, Tryz.ntmps13
  go_upto_region 6 with (first
    | (go_at_call 16; refine (bursarlaw03_known.calls k true _ HK.out HG.out.toGlob).mono ?_; rintro e w1 ⟨rfl, hb⟩; have HB1 := Aside0.mk hb; clear hb)
    | (go_at_call 29; (with_reducible refine (behind_at (l := l0) HX.out _ (Kd.C_below HR0.out HB1.out) hc0 (by have := HL0.out; omega) (GlobM.below HG.out HB1.out)).mono ?_); rintro e w2 ⟨vx, rfl, hrx, hb⟩; have HB2 := Aside0.mk (below_step HB1.out hb); have BX := Aside0.mk ((Bag.nil _ w.heap.size).snoc hb (below_size HB1.out) hrx); clear hb hrx)
    | (go_at_call 29; (with_reducible refine (behind_at (l := l1) HY.out _ (Kd.C_below HR1.out HB2.out) hc1 (by have := HL1.out; omega) (GlobM.below HG.out HB2.out)).mono ?_); rintro e w3 ⟨vy, rfl, hry, hb⟩; have HB3 := Aside0.mk (below_step HB2.out hb); have BY := Aside0.mk (BX.out.snoc hb (below_size HB2.out) hry); clear hb hry))
  obtain ⟨Ax, cx, rfl⟩ := BY.out.slice (i := 0) rfl
  obtain ⟨Ay, cy, rfl⟩ := BY.out.slice (i := 1) rfl
  have hs0 : ST w (w3.alloc (.cells #[.slice none 0 0, .slice none 0 0, .slice none 0 0, .slice none 0 0, .slice none 0 0, .slice none 0 0] 59)) w3.heap.size #[.slice none 0 0, .slice none 0 0, .slice none 0 0, .slice none 0 0, .slice none 0 0, .slice none 0 0] ([] ++ [(.slice Ax X.length cx, X)] ++ [(.slice Ay Y.length cy, Y)]) :=
    ⟨below_step HB3.out ((Below.refl w3.heap.size w3).alloc (Nat.le_refl _) _), blk_new w3 _, BY.out.below ((Below.refl w3.heap.size w3).alloc (Nat.le_refl _) _), below_size HB3.out⟩
  have ST2 := Aside0.mk hs0
  clear hs0 BX BY HB1 HB2 HB3
  generalize w3.alloc _ = w4 at ST2 ⊢
  generalize w3.heap.size = g7 at ST2 ⊢
  have hcx := cut_to (P := Tryz.prog) 46 57 .i64 Tryz.underlying46 HI.out Ax X.length cx (l0.length : Int) hq0 (by have := HXL.out; omega) ((ST2.out.bag.reads (i := 0) rfl).2.1)
  have hcy := cut_to (P := Tryz.prog) 46 57 .i64 Tryz.underlying46 HI.out Ay Y.length cy (l1.length : Int) hq1 (by have := HYL.out; omega) ((ST2.out.bag.reads (i := 1) rfl).2.1)
  rw [Int.toNat_natCast] at hcx hcy
  go_upto_region 7 with (first
    | (go_at_call 36; (with_reducible refine (quant_Normal.calls k Ax cx l0 n en _ (ST2.out.bag.cutX HX.out (i := 0) rfl).1 (ST2.out.bag.cutX HX.out (i := 0) rfl).2 HN.out (GlobM.below HG.out ST2.out.b).toGlob).mono ?_); rintro e wae ⟨v0, rfl, hr, hb⟩; have SE2 := Aside0.mk (ST2.out.call hr hb); have hcs := (blk_cell SE2.out.ar 0).trans rfl; have hfs := blk_frozen SE2.out.ar 0; clear hr hb; obtain ⟨Av0, cv0, rfl⟩ := SE2.out.bag.slice (i := 2) rfl))
  have ST3 := Aside0.mk (SE2.out.store 0 (.slice Av0 n.length cv0) rfl)
  clear hcs hfs ST2 SE2
  generalize wae.setCell _ _ = wan at ST3 ⊢
  go_upto_region 8 with (first
    | (go_at_call 36; (with_reducible refine (quant_Normal.calls k Ax cx l0 n en _ (ST3.out.bag.cutX HX.out (i := 0) rfl).1 (ST3.out.bag.cutX HX.out (i := 0) rfl).2 HN.out (GlobM.below HG.out ST3.out.b).toGlob).mono ?_); rintro e wbe ⟨v1, rfl, hr, hb⟩; have SE3 := Aside0.mk (ST3.out.call hr hb); have hcs := (blk_cell SE3.out.ar 1).trans rfl; have hfs := blk_frozen SE3.out.ar 1; clear hr hb; obtain ⟨Av1, cv1, rfl⟩ := SE3.out.bag.slice (i := 3) rfl))
  have ST4 := Aside0.mk (SE3.out.store 1 (.slice Av1 n.length cv1) rfl)
  clear hcs hfs ST3 SE3
  generalize wbe.setCell _ _ = wbn at ST4 ⊢
  refine start_ (n := 14) (S := fun w' => True) (ds := []) (bl 0 14) (by kernel_rfl) rfl rfl trivial (fun hHeld => ?_)
  have SD4 := Aside0.mk (ST4.out.below (drew_below wbn))
  generalize wbn.drew = wbnd at SD4 hHeld ⊢
  refine pure_ (i := 0) (N := some 39) (v := ?_) (a' := ?_) (bl 1 13) rfl rfl (by kernel_rfl) (fun _ _ _ h => h) (Or.inl ⟨by rfl, ?_⟩) ?_ ?_
  rotate_left
  · intro w'
    go_simp
    with_reducible rfl
  rotate_left
  · simp only [pu_]
    rfl
  refine pure_ (i := 1) (N := some 40) (v := ?_) (a' := ?_) (bl 2 12) rfl rfl (by kernel_rfl) (fun _ _ _ h => h) (Or.inl ⟨by rfl, ?_⟩) ?_ ?_
  rotate_left
  · intro w'
    go_simp
    with_reducible rfl
  rotate_left
  · simp only [pu_]
    rfl
  refine pure_ (i := 2) (N := some 41) (v := ?_) (a' := ?_) (bl 3 11) rfl rfl (by kernel_rfl) (fun _ _ _ h => h) (Or.inl ⟨by rfl, ?_⟩) ?_ ?_
  rotate_left
  · intro w'
    go_simp
    with_reducible rfl
  rotate_left
  · simp only [pu_]
    rfl
  refine pure_ (i := 3) (N := some 42) (v := ?_) (a' := ?_) (bl 4 10) rfl rfl (by kernel_rfl) (fun _ _ _ h => h) (Or.inl ⟨by rfl, ?_⟩) ?_ ?_
  rotate_left
  · intro w'
    go_simp
    with_reducible rfl
  rotate_left
  · simp only [pu_]
    rfl
  refine pure_ (i := 4) (N := some 43) (v := ?_) (a' := ?_) (bl 5 9) rfl rfl (by kernel_rfl) (fun _ _ _ h => h) (Or.inl ⟨by rfl, ?_⟩) ?_ ?_
  rotate_left
  · intro w'
    go_simp
    with_reducible rfl
  rotate_left
  · simp only [pu_]
    rfl
  refine pure_ (i := 5) (N := some 44) (v := ?_) (a' := ?_) (bl 6 8) rfl rfl (by kernel_rfl) (fun _ _ _ h => h) (Or.inl ⟨by rfl, ?_⟩) ?_ ?_
  rotate_left
  · intro w'
    go_simp
    with_reducible rfl
  rotate_left
  · simp only [pu_]
    rfl
  refine pure_ (i := 6) (N := some 45) (v := ?_) (a' := ?_) (bl 7 7) rfl rfl (by kernel_rfl) (fun _ _ _ h => h) (Or.inl ⟨by rfl, ?_⟩) ?_ ?_
  rotate_left
  · intro w'
    go_simp
    with_reducible rfl
  rotate_left
  · simp only [pu_]
    rfl
  refine pure_ (i := 7) (N := some 46) (v := ?_) (a' := ?_) (bl 8 6) rfl rfl (by kernel_rfl) (fun _ _ _ h => h) (Or.inl ⟨by rfl, ?_⟩) ?_ ?_
  rotate_left
  · intro w'
    go_simp
    with_reducible rfl
  rotate_left
  · simp only [pu_]
    rfl
  refine one_ (i := 8) (N := some 47) (bl 9 5) rfl rfl (by kernel_rfl) (by decide) (fun K hK => ?_)
  refine goes_ Tryz.func41 (by kernel_rfl) rfl #[.slice Ax l0.length cx, .slice Ay l1.length cy] (by rfl) rfl rfl (by (try simp only [List.map_toArray, List.map_cons, List.map_nil]); first | done | rfl) ?_
  with_reducible refine (quant_Plus.calls k Ax cx l0 Ay cy l1 p ep _ (SD4.out.bag.cutX HX.out (i := 0) rfl).1 (SD4.out.bag.cutX HX.out (i := 0) rfl).2 (SD4.out.bag.cutX HY.out (i := 1) rfl).1 (SD4.out.bag.cutX HY.out (i := 1) rfl).2 HP.out (GlobM.below HG.out SD4.out.b).toGlob).mono ?_
  rintro e wbne ⟨v2, rfl, hr, hb⟩
  have SE4 := Aside0.mk (SD4.out.call hr hb)
  clear hr hb
  obtain ⟨Av2, cv2, rfl⟩ := SE4.out.bag.slice (i := 4) rfl
  refine ⟨_, rfl, ?_⟩
  refine hK.out _ _ trivial (fun hHeld => ?_)
  clear hK K
  refine norm_ (a' := ?_) ?_ ?_
  rotate_left
  · show Act.put _ (some 47) _ = _
    simp only [pu_]
    rfl
  refine pure_ (i := 9) (N := some 38) (v := ?_) (a' := ?_) (bl 10 4) rfl rfl (by kernel_rfl) (fun _ _ _ h => h) (Or.inl ⟨by rfl, ?_⟩) ?_ ?_
  rotate_left
  · intro w'
    go_simp
    with_reducible rfl
  rotate_left
  · simp only [pu_]
    rfl
  refine pure_ (i := 10) (N := some 48) (v := ?_) (a' := ?_) (bl 11 3) rfl rfl (by kernel_rfl) (fun _ _ _ h => h) (Or.inl ⟨by rfl, ?_⟩) ?_ ?_
  rotate_left
  · intro w'
    go_simp
    with_reducible rfl
  rotate_left
  · simp only [pu_]
    rfl
  refine pure_ (i := 11) (N := some 49) (v := ?_) (a' := ?_) (bl 12 2) rfl rfl (by kernel_rfl) (fun _ _ _ h => h) (Or.inl ⟨by rfl, ?_⟩) ?_ ?_
  rotate_left
  · intro w'
    go_simp
    with_reducible rfl
  rotate_left
  · simp only [pu_]
    rfl
  refine pure_ (i := 12) (N := some 50) (v := ?_) (a' := ?_) (bl 13 1) rfl rfl (by kernel_rfl) (fun _ _ _ h => h) (Or.inl ⟨by rfl, ?_⟩) ?_ ?_
  rotate_left
  · intro w'
    go_simp
    with_reducible rfl
  rotate_left
  · simp only [pu_]
    rfl
  refine one_ (i := 13) (N := none) (bl 14 0) rfl rfl (by kernel_rfl) (by decide) (fun K hK => ?_)
  have hcs := (blk_cell SE4.out.ar 2).trans rfl
  have hfs := blk_frozen SE4.out.ar 2
  refine skip_ (w1 := ?_) (by rfl) rfl ?_ ?_
  rotate_left
  · go_simp
    rfl
  refine hK.out _ _ trivial (fun hHeld => ?_)
  clear hK K
  refine done_ (by kernel_rfl) ?_
  have ST5 := Aside0.mk (SE4.out.store 2 (.slice Av2 p.length cv2) rfl)
  clear hcs hfs ST4 SD4 SE4
  try go_wp2
  generalize wbne.setCell _ _ = wc at ST5 ⊢
  refine start_ (n := 14) (S := fun w' => True) (ds := []) (bl 0 14) (by kernel_rfl) rfl rfl trivial (fun hHeld => ?_)
  have SD5 := Aside0.mk (ST5.out.below (drew_below wc))
  generalize wc.drew = wcd at SD5 hHeld ⊢
  refine pure_ (i := 0) (N := some 52) (v := ?_) (a' := ?_) (bl 1 13) rfl rfl (by kernel_rfl) (fun _ _ _ h => h) (Or.inl ⟨by rfl, ?_⟩) ?_ ?_
  rotate_left
  · intro w'
    go_simp
    with_reducible rfl
  rotate_left
  · simp only [pu_]
    rfl
  refine pure_ (i := 1) (N := some 53) (v := ?_) (a' := ?_) (bl 2 12) rfl rfl (by kernel_rfl) (fun _ _ _ h => h) (Or.inl ⟨by rfl, ?_⟩) ?_ ?_
  rotate_left
  · intro w'
    go_simp
    with_reducible rfl
  rotate_left
  · simp only [pu_]
    rfl
  refine pure_ (i := 2) (N := some 54) (v := ?_) (a' := ?_) (bl 3 11) rfl rfl (by kernel_rfl) (fun _ _ _ h => h) (Or.inl ⟨by rfl, ?_⟩) ?_ ?_
  rotate_left
  · intro w'
    go_simp
    with_reducible rfl
  rotate_left
  · simp only [pu_]
    rfl
  refine pure_ (i := 3) (N := some 55) (v := ?_) (a' := ?_) (bl 4 10) rfl rfl (by kernel_rfl) (fun _ _ _ h => h) (Or.inl ⟨by rfl, ?_⟩) ?_ ?_
  rotate_left
  · intro w'
    go_simp
    with_reducible rfl
  rotate_left
  · simp only [pu_]
    rfl
  refine pure_ (i := 4) (N := some 56) (v := ?_) (a' := ?_) (bl 5 9) rfl rfl (by kernel_rfl) (fun _ _ _ h => h) (Or.inl ⟨by rfl, ?_⟩) ?_ ?_
  rotate_left
  · intro w'
    go_simp
    with_reducible rfl
  rotate_left
  · simp only [pu_]
    rfl
  refine pure_ (i := 5) (N := some 57) (v := ?_) (a' := ?_) (bl 6 8) rfl rfl (by kernel_rfl) (fun _ _ _ h => h) (Or.inl ⟨by rfl, ?_⟩) ?_ ?_
  rotate_left
  · intro w'
    go_simp
    with_reducible rfl
  rotate_left
  · simp only [pu_]
    rfl
  refine pure_ (i := 6) (N := some 58) (v := ?_) (a' := ?_) (bl 7 7) rfl rfl (by kernel_rfl) (fun _ _ _ h => h) (Or.inl ⟨by rfl, ?_⟩) ?_ ?_
  rotate_left
  · intro w'
    go_simp
    with_reducible rfl
  rotate_left
  · simp only [pu_]
    rfl
  refine pure_ (i := 7) (N := some 59) (v := ?_) (a' := ?_) (bl 8 6) rfl rfl (by kernel_rfl) (fun _ _ _ h => h) (Or.inl ⟨by rfl, ?_⟩) ?_ ?_
  rotate_left
  · intro w'
    go_simp
    with_reducible rfl
  rotate_left
  · simp only [pu_]
    rfl
  refine one_ (i := 8) (N := some 60) (bl 9 5) rfl rfl (by kernel_rfl) (by decide) (fun K hK => ?_)
  refine goes_ Tryz.func41 (by kernel_rfl) rfl #[.slice Ax l0.length cx, .slice Ay l1.length cy] (by rfl) rfl rfl (by (try simp only [List.map_toArray, List.map_cons, List.map_nil]); first | done | rfl) ?_
  with_reducible refine (quant_Plus.calls k Ax cx l0 Ay cy l1 p ep _ (SD5.out.bag.cutX HX.out (i := 0) rfl).1 (SD5.out.bag.cutX HX.out (i := 0) rfl).2 (SD5.out.bag.cutX HY.out (i := 1) rfl).1 (SD5.out.bag.cutX HY.out (i := 1) rfl).2 HP.out (GlobM.below HG.out SD5.out.b).toGlob).mono ?_
  rintro e wce ⟨v3, rfl, hr, hb⟩
  have SE5 := Aside0.mk (SD5.out.call hr hb)
  clear hr hb
  obtain ⟨Av3, cv3, rfl⟩ := SE5.out.bag.slice (i := 5) rfl
  refine ⟨_, rfl, ?_⟩
  refine hK.out _ _ trivial (fun hHeld => ?_)
  clear hK K
  refine norm_ (a' := ?_) ?_ ?_
  rotate_left
  · show Act.put _ (some 60) _ = _
    simp only [pu_]
    rfl
  refine pure_ (i := 9) (N := some 51) (v := ?_) (a' := ?_) (bl 10 4) rfl rfl (by kernel_rfl) (fun _ _ _ h => h) (Or.inl ⟨by rfl, ?_⟩) ?_ ?_
  rotate_left
  · intro w'
    go_simp
    with_reducible rfl
  rotate_left
  · simp only [pu_]
    rfl
  refine pure_ (i := 10) (N := some 61) (v := ?_) (a' := ?_) (bl 11 3) rfl rfl (by kernel_rfl) (fun _ _ _ h => h) (Or.inl ⟨by rfl, ?_⟩) ?_ ?_
  rotate_left
  · intro w'
    go_simp
    with_reducible rfl
  rotate_left
  · simp only [pu_]
    rfl
  refine pure_ (i := 11) (N := some 62) (v := ?_) (a' := ?_) (bl 12 2) rfl rfl (by kernel_rfl) (fun _ _ _ h => h) (Or.inl ⟨by rfl, ?_⟩) ?_ ?_
  rotate_left
  · intro w'
    go_simp
    with_reducible rfl
  rotate_left
  · simp only [pu_]
    rfl
  refine pure_ (i := 12) (N := some 63) (v := ?_) (a' := ?_) (bl 13 1) rfl rfl (by kernel_rfl) (fun _ _ _ h => h) (Or.inl ⟨by rfl, ?_⟩) ?_ ?_
  rotate_left
  · intro w'
    go_simp
    with_reducible rfl
  rotate_left
  · simp only [pu_]
    rfl
  refine one_ (i := 13) (N := none) (bl 14 0) rfl rfl (by kernel_rfl) (by decide) (fun K hK => ?_)
  have hcs := (blk_cell SE5.out.ar 3).trans rfl
  have hfs := blk_frozen SE5.out.ar 3
  refine skip_ (w1 := ?_) (by rfl) rfl ?_ ?_
  rotate_left
  · go_simp
    rfl
  refine hK.out _ _ trivial (fun hHeld => ?_)
  clear hK K
  refine done_ (by kernel_rfl) ?_
  have ST6 := Aside0.mk (SE5.out.store 3 (.slice Av3 p.length cv3) rfl)
  clear hcs hfs ST5 SD5 SE5
  try go_wp2
  generalize wce.setCell _ _ = wd at ST6 ⊢
  refine start_ (n := 14) (S := fun w' => True) (ds := []) (bl 0 14) (by kernel_rfl) rfl rfl trivial (fun hHeld => ?_)
  have SD6 := Aside0.mk (ST6.out.below (drew_below wd))
  generalize wd.drew = wdd at SD6 hHeld ⊢
  refine pure_ (i := 0) (N := some 65) (v := ?_) (a' := ?_) (bl 1 13) rfl rfl (by kernel_rfl) (fun _ _ _ h => h) (Or.inl ⟨by rfl, ?_⟩) ?_ ?_
  rotate_left
  · intro w'
    go_simp
    with_reducible rfl
  rotate_left
  · simp only [pu_]
    rfl
  refine pure_ (i := 1) (N := some 66) (v := ?_) (a' := ?_) (bl 2 12) rfl rfl (by kernel_rfl) (fun _ _ _ h => h) (Or.inl ⟨by rfl, ?_⟩) ?_ ?_
  rotate_left
  · intro w'
    go_simp
    with_reducible rfl
  rotate_left
  · simp only [pu_]
    rfl
  refine pure_ (i := 2) (N := some 67) (v := ?_) (a' := ?_) (bl 3 11) rfl rfl (by kernel_rfl) (fun _ _ _ h => h) (Or.inl ⟨by rfl, ?_⟩) ?_ ?_
  rotate_left
  · intro w'
    go_simp
    with_reducible rfl
  rotate_left
  · simp only [pu_]
    rfl
  refine pure_ (i := 3) (N := some 68) (v := ?_) (a' := ?_) (bl 4 10) rfl rfl (by kernel_rfl) (fun _ _ _ h => h) (Or.inl ⟨by rfl, ?_⟩) ?_ ?_
  rotate_left
  · intro w'
    go_simp
    with_reducible rfl
  rotate_left
  · simp only [pu_]
    rfl
  refine pure_ (i := 4) (N := some 69) (v := ?_) (a' := ?_) (bl 5 9) rfl rfl (by kernel_rfl) (fun _ _ _ h => h) (Or.inl ⟨by rfl, ?_⟩) ?_ ?_
  rotate_left
  · intro w'
    go_simp
    with_reducible rfl
  rotate_left
  · simp only [pu_]
    rfl
  refine pure_ (i := 5) (N := some 70) (v := ?_) (a' := ?_) (bl 6 8) rfl rfl (by kernel_rfl) (fun _ _ _ h => h) (Or.inl ⟨by rfl, ?_⟩) ?_ ?_
  rotate_left
  · intro w'
    go_simp
    with_reducible rfl
  rotate_left
  · simp only [pu_]
    rfl
  refine pure_ (i := 6) (N := some 71) (v := ?_) (a' := ?_) (bl 7 7) rfl rfl (by kernel_rfl) (fun _ _ _ h => h) (Or.inl ⟨by rfl, ?_⟩) ?_ ?_
  rotate_left
  · intro w'
    go_simp
    with_reducible rfl
  rotate_left
  · simp only [pu_]
    rfl
  refine pure_ (i := 7) (N := some 72) (v := ?_) (a' := ?_) (bl 8 6) rfl rfl (by kernel_rfl) (fun _ _ _ h => h) (Or.inl ⟨by rfl, ?_⟩) ?_ ?_
  rotate_left
  · intro w'
    go_simp
    with_reducible rfl
  rotate_left
  · simp only [pu_]
    rfl
  refine one_ (i := 8) (N := some 73) (bl 9 5) rfl rfl (by kernel_rfl) (by decide) (fun K hK => ?_)
  refine goes_ Tryz.func42 (by kernel_rfl) rfl #[.slice Ax l0.length cx, .slice Ay l1.length cy] (by rfl) rfl rfl (by (try simp only [List.map_toArray, List.map_cons, List.map_nil]); first | done | rfl) ?_
  with_reducible refine (quant_Minus.calls k Ax cx l0 Ay cy l1 m em _ (SD6.out.bag.cutX HX.out (i := 0) rfl).1 (SD6.out.bag.cutX HX.out (i := 0) rfl).2 (SD6.out.bag.cutX HY.out (i := 1) rfl).1 (SD6.out.bag.cutX HY.out (i := 1) rfl).2 HM.out (GlobM.below HG.out SD6.out.b).toGlob).mono ?_
  rintro e wde ⟨v4, rfl, hr, hb⟩
  have SE6 := Aside0.mk (SD6.out.call hr hb)
  clear hr hb
  obtain ⟨Av4, cv4, rfl⟩ := SE6.out.bag.slice (i := 6) rfl
  refine ⟨_, rfl, ?_⟩
  refine hK.out _ _ trivial (fun hHeld => ?_)
  clear hK K
  refine norm_ (a' := ?_) ?_ ?_
  rotate_left
  · show Act.put _ (some 73) _ = _
    simp only [pu_]
    rfl
  refine pure_ (i := 9) (N := some 64) (v := ?_) (a' := ?_) (bl 10 4) rfl rfl (by kernel_rfl) (fun _ _ _ h => h) (Or.inl ⟨by rfl, ?_⟩) ?_ ?_
  rotate_left
  · intro w'
    go_simp
    with_reducible rfl
  rotate_left
  · simp only [pu_]
    rfl
  refine pure_ (i := 10) (N := some 74) (v := ?_) (a' := ?_) (bl 11 3) rfl rfl (by kernel_rfl) (fun _ _ _ h => h) (Or.inl ⟨by rfl, ?_⟩) ?_ ?_
  rotate_left
  · intro w'
    go_simp
    with_reducible rfl
  rotate_left
  · simp only [pu_]
    rfl
  refine pure_ (i := 11) (N := some 75) (v := ?_) (a' := ?_) (bl 12 2) rfl rfl (by kernel_rfl) (fun _ _ _ h => h) (Or.inl ⟨by rfl, ?_⟩) ?_ ?_
  rotate_left
  · intro w'
    go_simp
    with_reducible rfl
  rotate_left
  · simp only [pu_]
    rfl
  refine pure_ (i := 12) (N := some 76) (v := ?_) (a' := ?_) (bl 13 1) rfl rfl (by kernel_rfl) (fun _ _ _ h => h) (Or.inl ⟨by rfl, ?_⟩) ?_ ?_
  rotate_left
  · intro w'
    go_simp
    with_reducible rfl
  rotate_left
  · simp only [pu_]
    rfl
  refine one_ (i := 13) (N := none) (bl 14 0) rfl rfl (by kernel_rfl) (by decide) (fun K hK => ?_)
  have hcs := (blk_cell SE6.out.ar 4).trans rfl
  have hfs := blk_frozen SE6.out.ar 4
  refine skip_ (w1 := ?_) (by rfl) rfl ?_ ?_
  rotate_left
  · go_simp
    rfl
  refine hK.out _ _ trivial (fun hHeld => ?_)
  clear hK K
  refine done_ (by kernel_rfl) ?_
  have ST7 := Aside0.mk (SE6.out.store 4 (.slice Av4 m.length cv4) rfl)
  clear hcs hfs ST6 SD6 SE6
  go_upto_region 11 with fail
  generalize wde.setCell _ _ = wf at ST7 ⊢
  go_upto_region 12 with (first
    | (go_at_call 42; (with_reducible refine (minus_nil k Ax cx l0 d ed _ (ST7.out.bag.cutX HX.out (i := 0) rfl).1 (ST7.out.bag.cutX HX.out (i := 0) rfl).2 HD.out (GlobM.below HG.out ST7.out.b).toGlob).mono ?_); rintro e wge ⟨v5, rfl, hr, hb⟩; have SE7 := Aside0.mk (ST7.out.call hr hb); have hcs := (blk_cell SE7.out.ar 5).trans rfl; have hfs := blk_frozen SE7.out.ar 5; clear hr hb; obtain ⟨Av5, cv5, rfl⟩ := SE7.out.bag.slice (i := 7) rfl))
  have ST8 := Aside0.mk (SE7.out.store 5 (.slice Av5 d.length cv5) rfl)
  clear hcs hfs ST7 SE7
  generalize wge.setCell _ _ = wh at ST8 ⊢
  go_upto_region 14 with fail
  have hZ : (#[.int .i64 0, .int .i64 0, .int .i64 0, .int .i64 0, .int .i64 0, .int .i64 0] : Array Value) = (zsAt [n, n, p, p, m, d] 0).toArray := rfl
  have hb8 := (Below.refl wh.heap.size wh).alloc (Nat.le_refl _) (.cells #[.int .i64 0, .int .i64 0, .int .i64 0, .int .i64 0, .int .i64 0, .int .i64 0] 61)
  have hs9 : SU w (wh.alloc (.cells #[.int .i64 0, .int .i64 0, .int .i64 0, .int .i64 0, .int .i64 0, .int .i64 0] 61)) g7 wh.heap.size (.slice Ax X.length cx, X) (.slice Ay Y.length cy, Y) [.slice Av0 n.length cv0, .slice Av1 n.length cv1, .slice Av2 p.length cv2, .slice Av3 p.length cv3, .slice Av4 m.length cv4, .slice Av5 d.length cv5] (zsAt [n, n, p, p, m, d] 0) (csAt [n, n, p, p, m, d] 0 0) :=
    ⟨below_step ST8.out.b hb8, blk_below ST8.out.ar hb8, by rw [← hZ]; exact blk_new wh _, by rw [csAt_zero _ rfl]; exact ST8.out.bag.below hb8, ST8.out.ge, below_size ST8.out.b⟩
  have S9 := Aside0.mk hs9
  clear hs9 hb8 hZ ST8
  have hform : ∀ i, i < 6 → ∃ A c, ([.slice Av0 n.length cv0, .slice Av1 n.length cv1, .slice Av2 p.length cv2, .slice Av3 p.length cv3, .slice Av4 m.length cv4, .slice Av5 d.length cv5] : List Value)[i]? = some (.slice A (([n, n, p, p, m, d] : List (List S57)).getD i []).length c) := by
    intro i hi
    obtain rfl | rfl | rfl | rfl | rfl | rfl : i = 0 ∨ i = 1 ∨ i = 2 ∨ i = 3 ∨ i = 4 ∨ i = 5 := by omega
    all_goals exact ⟨_, _, rfl⟩
  have hbound : ∀ i, i < 6 → (([n, n, p, p, m, d] : List (List S57)).getD i []).length ≤ 4000000 := by
    have := HLN.out
    intro i hi
    obtain rfl | rfl | rfl | rfl | rfl | rfl : i = 0 ∨ i = 1 ∨ i = 2 ∨ i = 3 ∨ i = 4 ∨ i = 5 := by omega
    · exact this.1
    · exact this.1
    · exact this.2.1
    · exact this.2.1
    · exact this.2.2.1
    · exact this.2.2.2
  obtain ⟨vs, hvs⟩ : ∃ vs : List Value, vs = [.slice Av0 n.length cv0, .slice Av1 n.length cv1, .slice Av2 p.length cv2, .slice Av3 p.length cv3, .slice Av4 m.length cv4, .slice Av5 d.length cv5] := ⟨_, rfl⟩
  obtain ⟨Ls, hLs⟩ : ∃ Ls : List (List S57), Ls = [n, n, p, p, m, d] := ⟨_, rfl⟩
  have hLL : Ls.length = 6 := by rw [hLs]; rfl
  have hvl : vs.length = 6 := by rw [hvs]; rfl
  rw [← hvs, ← hLs] at hform
  rw [← hvs, ← hLs] at S9
  rw [← hLs] at hbound
  clear hvs hLs
  have FM := Lib.hid hform
  have BD := Lib.hid hbound
  clear hform hbound
  generalize wh.alloc _ = w9 at S9 ⊢
  generalize wh.heap.size = g8 at S9 ⊢
  go_loopg [9] 6 (fun g v9 wr => ∃ i : Nat, v9 = .int .i64 (i : Int) ∧ i ≤ 6 ∧ 6 ≤ i + g ∧ Aside0 (SU w wr g7 g8 (.slice Ax X.length cx, X) (.slice Ay Y.length cy, Y) vs (zsAt Ls i) (csAt Ls i 0)))
  case atStart => exact ⟨0, rfl, by omega, by omega, S9⟩
  case round =>
    clear S9
    obtain ⟨i, rfl, hi6, hig, S9⟩ := hrel
    by_cases hlt : i < 6
    · cases gk with
      | zero => omega
      | succ g =>
        obtain ⟨A, c, hv⟩ := FM.out i hlt
        obtain ⟨N, hNe⟩ : ∃ N, N = (Ls.getD i []).length := ⟨_, rfl⟩
        have hNb := BD.out i hlt
        rw [← hNe] at hv hNb
        have HNE := Lib.hid hNe
        clear hNe
        have hld := (blk_cell S9.out.ar i).trans ((List.getElem?_toArray ..).trans hv)
        have hcz := (blk_cell S9.out.ar8 i).trans ((List.getElem?_toArray ..).trans (zsAt_get Ls i i hlt))
        have hfz := blk_frozen S9.out.ar8 i
        go_upto_region 18 with fail
        have S10 := Aside0.mk (S9.out.size i (.int .i64 (N : Int)) (show (zsAt Ls i).toArray.setIfInBounds i (.int .i64 (N : Int)) = (zsAt Ls (i + 1)).toArray from by rw [HNE.out]; exact zsAt_next Ls i hlt))
        generalize wr.setCell _ _ = wk at S10 ⊢
        clear hld hcz hfz S9
        go_loopg [10] N (fun g v10 wr => ∃ j : Nat, v10 = .int .i64 (j : Int) ∧ j ≤ N ∧ N ≤ j + g ∧ Aside0 (SU w wr g7 g8 (.slice Ax X.length cx, X) (.slice Ay Y.length cy, Y) vs (zsAt Ls (i + 1)) (csAt Ls i j)))
        case atStart => exact ⟨0, rfl, by omega, by omega, S10⟩
        case round =>
          clear S10
          obtain ⟨j, rfl, hjN, hjg, S10⟩ := hrel
          have hcz := (blk_cell S10.out.ar8 i).trans ((List.getElem?_toArray ..).trans (zsAt_get Ls (i + 1) i hlt))
          rw [if_pos (by omega), ← HNE.out] at hcz
          by_cases hjlt : j < N
          · cases gk with
            | zero => omega
            | succ g1 =>
              have hld := (blk_cell S10.out.ar i).trans ((List.getElem?_toArray ..).trans hv)
              obtain ⟨L, hL, hLl, hset⟩ := csAt_row Ls i j hlt (by rw [← HNE.out]; exact hjN)
              rw [← HNE.out] at hLl hset
              have hrow := S10.out.row hv hL
              obtain ⟨g, s0, z0, rfl, hx0, hx1, hfr0, hfr1⟩ := own_form2 (S10.out.bag.get hrow) (j := j) (by omega)
              have HLL := Lib.hid hLl
              have HL := Lib.hid hL
              have HROW := Lib.hid hrow
              have HSET := Lib.hid hset
              clear hLl hL hrow hset
              have hi100 : (0 : Int) ≤ 100 + (i : Int) := by omega
              go_wp2
              go_roundg g1
              case measure => omega
              case rel => exact ⟨j + 1, by go_num, by omega, by omega, ⟨S10.out.put hv HL.out HLL.out j hjlt (wS i) (HSET.out hjlt)⟩⟩
          · obtain rfl : j = N := by omega
            go_wp2
            go_roundg g
            case measure => omega
            case rel => exact ⟨i + 1, by go_num, by omega, by omega, ⟨by have := S10.out; rw [HNE.out, csAt_next] at this; exact this⟩⟩
    · obtain rfl : i = 6 := by omega
      go_upto_region 22 with fail
      have S20 := Aside0.mk (show SU w wr g7 g8 (.slice Ax X.length cx, X) (.slice Ay Y.length cy, Y) vs (zsAt Ls 6) (dsAt Ls 0) by rw [← csAt_full]; exact S9.out)
      have HVL := Lib.hid hvl
      clear S9 hvl
      go_loopg [11] 6 (fun g v11 wr => ∃ (i : Nat) (us : List Value), v11 = .int .i64 (i : Int) ∧ i ≤ 6 ∧ 6 ≤ i + g ∧ Aside0 (us.length = 6) ∧ Aside0 (SU w wr g7 g8 (.slice Ax X.length cx, X) (.slice Ay Y.length cy, Y) us (zsAt Ls 6) (dsAt Ls i)))
      case atStart => exact ⟨0, vs, rfl, by omega, by omega, ⟨HVL.out⟩, S20⟩
      case round =>
      clear S20 HVL FM
      obtain ⟨i, us, rfl, hi6, hig, HVL, S20⟩ := hrel
      by_cases hlt : i < 6
      rotate_left
      · obtain rfl : i = 6 := by omega
        go_upto_region 26 with fail
        go_loopg [12] 6 (fun g v12 wr => ∃ i : Nat, v12 = .int .i64 (i : Int) ∧ i ≤ 6 ∧ 6 ≤ i + g ∧ Aside0 (SU w wr g7 g8 (.slice Ax X.length cx, X) (.slice Ay Y.length cy, Y) us (zsAt Ls 6) (dsAt Ls 6)))
        case atStart => exact ⟨0, rfl, by omega, by omega, S20⟩
        case round =>
        clear S20
        obtain ⟨i, rfl, hi6, hig, S30⟩ := hrel
        by_cases hlt : i < 6
        rotate_left
        · obtain rfl : i = 6 := by omega
          clear hlt HVL
          go_wp2_with (first
            | (go_at_call 32; (with_reducible refine (bursarlaw03_untouched.calls k Ax cx X A0 c0 l0 true _ (S30.out.bag.reads (i := 0) rfl).2.2 (S30.out.bag.reads (i := 0) rfl).2.1 (Kd.C_below HR0.out S30.out.b) hc0 HUX.out (GlobM.below HG.out S30.out.b)).mono ?_); rintro e w40 ⟨rfl, hb⟩; have S40 := Aside0.mk (S30.out.below hb); clear hb)
            | (go_at_call 32; (with_reducible refine (bursarlaw03_untouched.calls k Ay cy Y A1 c1 l1 true _ (S40.out.bag.reads (i := 1) rfl).2.2 (S40.out.bag.reads (i := 1) rfl).2.1 (Kd.C_below HR1.out S40.out.b) hc1 HUY.out (GlobM.below HG.out S40.out.b)).mono ?_); rintro e w41 ⟨rfl, hb⟩; have S41 := Aside0.mk (S40.out.below hb); clear hb))
          go_ret
          exact ⟨rfl, S41.out.b⟩
        cases gk with
        | zero => omega
        | succ g =>
        obtain ⟨v, hv⟩ : ∃ v, us[i]? = some v := ⟨_, List.getElem?_eq_getElem (by have := HVL.out; omega)⟩
        have hL := dsAt_get Ls 6 i hlt
        rw [if_pos hlt] at hL
        have hNb := BD.out i hlt
        obtain ⟨A, c, rfl⟩ := S30.out.bag.slice (S30.out.row hv hL)
        have hcap := (S30.out.bag.reads (S30.out.row hv hL)).2.1
        obtain ⟨N, hNe⟩ : ∃ N, N = (Ls.getD i []).length := ⟨_, rfl⟩
        rw [← hNe] at hL hNb
        rw [← hNe] at hv hcap
        obtain ⟨M, hMe⟩ : ∃ M, M = (List.replicate N (wS i) ++ [vS i, markS]).length := ⟨_, rfl⟩
        rw [← hMe] at hv hcap
        have hMN : M = N + 2 := by rw [hMe]; simp
        have HMN := Lib.hid hMN
        have HNE := Lib.hid hNe
        have HL := Lib.hid hL
        have HV := Lib.hid hv
        clear hMe hMN hNe hL hv
        go_upto_region 29 with fail
        go_loopg [13] N (fun g v13 wr => ∃ j : Nat, v13 = .int .i64 (j : Int) ∧ j ≤ N ∧ N ≤ j + g ∧ Aside0 (SU w wr g7 g8 (.slice Ax X.length cx, X) (.slice Ay Y.length cy, Y) us (zsAt Ls 6) (dsAt Ls 6)))
        case atStart => exact ⟨0, rfl, by omega, by omega, S30⟩
        case round =>
        clear S30
        obtain ⟨j, rfl, hjN, hjg, S30⟩ := hrel
        have hld := (blk_cell S30.out.ar i).trans ((List.getElem?_toArray ..).trans HV.out)
        have hcz := (blk_cell S30.out.ar8 i).trans ((List.getElem?_toArray ..).trans (zsAt_get Ls 6 i hlt))
        rw [if_pos hlt, ← HNE.out] at hcz
        by_cases hjlt : j < N
        · cases gk with
          | zero => omega
          | succ g1 =>
          obtain ⟨gr, rfl, hx0, hx1⟩ := own_form3 (S30.out.bag.get (S30.out.row HV.out HL.out)) (ds_low i N j hjlt)
          have hjM : j < M := by have := HMN.out; omega
          have e0 : (wS i).f0 = ⟨#[119]⟩ := rfl
          have e1 : (wS i).f1 = 100 + (i : Int) := rfl
          rw [e0] at hx0
          rw [e1] at hx1
          clear e0 e1
          go_wp2
          go_roundg g1
          case measure => omega
          case rel => exact ⟨j + 1, by go_num, by omega, by omega, S30⟩
        · obtain rfl : j = N := by omega
          go_upto_region 33 with fail
          obtain ⟨gr, rfl, hx0, hx1⟩ := own_form3 (S30.out.bag.get (S30.out.row HV.out HL.out)) (ds_high i j)
          have hjM : j < M := by have := HMN.out; omega
          have hjM2 : (j : Int) < (M : Int) := by omega
          have hbn : ((M : Int) != (j : Int) + 2) = false := by rw [bne_eq_false_iff_eq]; have := HMN.out; omega
          have hbe : ((M : Int) == (j : Int) + 2) = true := by rw [beq_iff_eq]; have := HMN.out; omega
          have hw2 : IntKind.i64.wrap ((j : Int) + 2) = (j : Int) + 2 := by rw [IntKind.wrap_i64]; omega
          have hw22 : wrap64 ((j : Int) + 2) = (j : Int) + 2 := by unfold wrap64; omega
          have hwi : IntKind.i64.wrap (200 + (i : Int)) = 200 + (i : Int) := by rw [IntKind.wrap_i64]; omega
          have hwi2 : wrap64 (200 + (i : Int)) = 200 + (i : Int) := by unfold wrap64; omega
          have e0 : (vS i).f0 = ⟨#[118]⟩ := rfl
          have e1 : (vS i).f1 = 200 + (i : Int) := rfl
          rw [e0] at hx0
          rw [e1] at hx1
          clear e0 e1
          refine start_ (n := 23) (S := fun w' => w'.cell? ⟨g7, i, none⟩ = some (.slice (some ⟨gr, 0, none⟩) M c) ∧ w'.cell? ⟨g8, i, none⟩ = some (.int .i64 (j : Int)) ∧ w'.cell? ⟨gr, j * 2, none⟩ = some (.string ⟨#[118]⟩) ∧ w'.cell? ⟨gr, j * 2 + 1, none⟩ = some (.int .i64 (200 + (i : Int)))) (ds := []) (bl 0 23) (by kernel_rfl) rfl rfl ⟨hld, hcz, hx0, hx1⟩ (fun hHeld => ?_)
          have S31 := Aside0.mk (S30.out.below (drew_below wr))
          generalize wr.drew = w31 at S31 hHeld ⊢
          clear hld hcz hx0 hx1 S30
          refine pure_ (i := 0) (N := some 147) (v := ?_) (a' := ?_) (bl 1 22) rfl rfl (by kernel_rfl) (fun _ _ _ h => h) (Or.inl ⟨by rfl, ?_⟩) ?_ ?_
          rotate_left
          · intro w'
            go_simp
            with_reducible rfl
          rotate_left
          · simp only [pu_]
            rfl
          refine pure_ (i := 1) (N := some 148) (v := ?_) (a' := ?_) (bl 2 21) rfl rfl (by kernel_rfl) (fun _ _ _ h => h) (Or.inl ⟨by rfl, ?_⟩) ?_ ?_
          rotate_left
          · intro w'
            go_simp
            with_reducible rfl
          rotate_left
          · simp only [pu_]
            rfl
          refine take_ (i := 2) (N := some 149) (v := ?_) (a' := ?_) (bl 3 20) rfl rfl (by kernel_rfl) (fun _ _ _ h => h) (Or.inl ⟨by rfl, ?_⟩) hHeld ?_ ?_
          rotate_left
          · rintro w' ⟨s0, s1, s2, s3⟩
            go_simp
            with_reducible rfl
          rotate_left
          · simp only [pu_]
            rfl
          refine pure_ (i := 3) (N := some 150) (v := ?_) (a' := ?_) (bl 4 19) rfl rfl (by kernel_rfl) (fun _ _ _ h => h) (Or.inl ⟨by rfl, ?_⟩) ?_ ?_
          rotate_left
          · intro w'
            go_simp
            with_reducible rfl
          rotate_left
          · simp only [pu_]
            rfl
          refine pure_ (i := 4) (N := some 151) (v := ?_) (a' := ?_) (bl 5 18) rfl rfl (by kernel_rfl) (fun _ _ _ h => h) (Or.inl ⟨by rfl, ?_⟩) ?_ ?_
          rotate_left
          · intro w'
            go_simp
            with_reducible rfl
          rotate_left
          · simp only [pu_]
            rfl
          refine pure_ (i := 5) (N := some 152) (v := ?_) (a' := ?_) (bl 6 17) rfl rfl (by kernel_rfl) (fun _ _ _ h => h) (Or.inl ⟨by rfl, ?_⟩) ?_ ?_
          rotate_left
          · intro w'
            go_simp
            with_reducible rfl
          rotate_left
          · simp only [pu_]
            rfl
          refine take_ (i := 6) (N := some 153) (v := ?_) (a' := ?_) (bl 7 16) rfl rfl (by kernel_rfl) (fun _ _ _ h => h) (Or.inl ⟨by rfl, ?_⟩) hHeld ?_ ?_
          rotate_left
          · rintro w' ⟨s0, s1, s2, s3⟩
            go_simp
            with_reducible rfl
          rotate_left
          · simp only [pu_]
            rfl
          refine pure_ (i := 7) (N := some 154) (v := ?_) (a' := ?_) (bl 8 15) rfl rfl (by kernel_rfl) (fun _ _ _ h => h) (Or.inl ⟨by rfl, ?_⟩) ?_ ?_
          rotate_left
          · intro w'
            go_simp
            with_reducible rfl
          rotate_left
          · simp only [pu_]
            rfl
          refine pure_ (i := 8) (N := some 155) (v := ?_) (a' := ?_) (bl 9 14) rfl rfl (by kernel_rfl) (fun _ _ _ h => h) (Or.inl ⟨by rfl, ?_⟩) ?_ ?_
          rotate_left
          · intro w'
            go_simp
            with_reducible rfl
          rotate_left
          · simp only [pu_]
            rfl
          refine pure_ (i := 9) (N := some 156) (v := ?_) (a' := ?_) (bl 10 13) rfl rfl (by kernel_rfl) (fun _ _ _ h => h) (Or.inl ⟨by rfl, ?_⟩) ?_ ?_
          rotate_left
          · intro w'
            go_simp
            with_reducible rfl
          rotate_left
          · simp only [pu_]
            rfl
          refine pure_ (i := 10) (N := some 157) (v := ?_) (a' := ?_) (bl 11 12) rfl rfl (by kernel_rfl) (fun _ _ _ h => h) (Or.inl ⟨by rfl, ?_⟩) ?_ ?_
          rotate_left
          · intro w'
            go_simp
            with_reducible rfl
          rotate_left
          · simp only [pu_]
            rfl
          refine pure_ (i := 11) (N := some 158) (v := ?_) (a' := ?_) (bl 12 11) rfl rfl (by kernel_rfl) (fun _ _ _ h => h) (Or.inl ⟨by rfl, ?_⟩) ?_ ?_
          rotate_left
          · intro w'
            go_simp
            with_reducible rfl
          rotate_left
          · simp only [pu_]
            rfl
          refine take_ (i := 12) (N := some 159) (v := ?_) (a' := ?_) (bl 13 10) rfl rfl (by kernel_rfl) (fun _ _ _ h => h) (Or.inl ⟨by rfl, ?_⟩) hHeld ?_ ?_
          rotate_left
          · rintro w' ⟨s0, s1, s2, s3⟩
            go_simp
            with_reducible rfl
          rotate_left
          · simp only [pu_]
            rfl
          refine pure_ (i := 13) (N := some 160) (v := ?_) (a' := ?_) (bl 14 9) rfl rfl (by kernel_rfl) (fun _ _ _ h => h) (Or.inl ⟨by rfl, ?_⟩) ?_ ?_
          rotate_left
          · intro w'
            go_simp
            with_reducible rfl
          rotate_left
          · simp only [pu_]
            rfl
          refine pure_ (i := 14) (N := some 161) (v := ?_) (a' := ?_) (bl 15 8) rfl rfl (by kernel_rfl) (fun _ _ _ h => h) (Or.inl ⟨by rfl, ?_⟩) ?_ ?_
          rotate_left
          · intro w'
            go_simp
            with_reducible rfl
          rotate_left
          · simp only [pu_]
            rfl
          refine take_ (i := 15) (N := some 162) (v := ?_) (a' := ?_) (bl 16 7) rfl rfl (by kernel_rfl) (fun _ _ _ h => h) (Or.inl ⟨by rfl, ?_⟩) hHeld ?_ ?_
          rotate_left
          · rintro w' ⟨s0, s1, s2, s3⟩
            go_simp
            with_reducible rfl
          rotate_left
          · simp only [pu_]
            rfl
          refine pure_ (i := 16) (N := some 163) (v := ?_) (a' := ?_) (bl 17 6) rfl rfl (by kernel_rfl) (fun _ _ _ h => h) (Or.inl ⟨by rfl, ?_⟩) ?_ ?_
          rotate_left
          · intro w'
            go_simp
            with_reducible rfl
          rotate_left
          · simp only [pu_]
            rfl
          refine take_ (i := 17) (N := some 164) (v := ?_) (a' := ?_) (bl 18 5) rfl rfl (by kernel_rfl) (fun _ _ _ h => h) (Or.inl ⟨by rfl, ?_⟩) hHeld ?_ ?_
          rotate_left
          · rintro w' ⟨s0, s1, s2, s3⟩
            go_simp
            with_reducible rfl
          rotate_left
          · simp only [pu_]
            rfl
          refine pure_ (i := 18) (N := some 165) (v := ?_) (a' := ?_) (bl 19 4) rfl rfl (by kernel_rfl) (fun _ _ _ h => h) (Or.inl ⟨by rfl, ?_⟩) ?_ ?_
          rotate_left
          · intro w'
            go_simp
            with_reducible rfl
          rotate_left
          · simp only [pu_]
            rfl
          refine pure_ (i := 19) (N := some 166) (v := ?_) (a' := ?_) (bl 20 3) rfl rfl (by kernel_rfl) (fun _ _ _ h => h) (Or.inl ⟨by rfl, ?_⟩) ?_ ?_
          rotate_left
          · intro w'
            go_simp
            with_reducible rfl
          rotate_left
          · simp only [pu_]
            rfl
          refine pure_ (i := 20) (N := some 167) (v := ?_) (a' := ?_) (bl 21 2) rfl rfl (by kernel_rfl) (fun _ _ _ h => h) (Or.inl ⟨by rfl, ?_⟩) ?_ ?_
          rotate_left
          · intro w'
            go_simp
            with_reducible rfl
          rotate_left
          · simp only [pu_]
            rfl
          refine pure_ (i := 21) (N := some 168) (v := ?_) (a' := ?_) (bl 22 1) rfl rfl (by kernel_rfl) (fun _ _ _ h => h) (Or.inl ⟨by rfl, ?_⟩) ?_ ?_
          rotate_left
          · intro w'
            go_simp
            with_reducible rfl
          rotate_left
          · simp only [pu_]
            rfl
          refine pure_ (i := 22) (N := some 169) (v := ?_) (a' := ?_) (bl 23 0) rfl rfl (by kernel_rfl) (fun _ _ _ h => h) (Or.inl ⟨by rfl, ?_⟩) ?_ ?_
          rotate_left
          · intro w'
            go_simp
            with_reducible rfl
          rotate_left
          · simp only [pu_]
            rfl
          refine done_ (by kernel_rfl) ?_
          clear hw2 hw22 hwi hwi2 hbn hbe
          go_wp2
          go_roundg g
          case measure => omega
          case rel => exact ⟨i + 1, by go_num, by omega, by omega, S31⟩
      cases gk with
      | zero => omega
      | succ g =>
      obtain ⟨v, hv⟩ : ∃ v, us[i]? = some v := ⟨_, List.getElem?_eq_getElem (by have := HVL.out; omega)⟩
      have hL := dsAt_get Ls i i hlt
      rw [if_neg (Nat.lt_irrefl i), List.append_nil] at hL
      have hNb := BD.out i hlt
      obtain ⟨A, c, rfl⟩ := S20.out.bag.slice (S20.out.row hv hL)
      have hown := S20.out.bag.get (S20.out.row hv hL)
      rw [List.length_replicate] at hv hown
      obtain ⟨N, hNe⟩ : ∃ N, N = (Ls.getD i []).length := ⟨_, rfl⟩
      rw [← hNe] at hv hNb hL hown
      have HNE := Lib.hid hNe
      have HL := Lib.hid hL
      have HO := Lib.hid hown
      have HV := Lib.hid hv
      clear hNe hL hown
      have hld := (blk_cell S20.out.ar i).trans ((List.getElem?_toArray ..).trans hv)
      have hm0 := (GlobM.below HG.out S20.out.b).mark0
      have hm1 := (GlobM.below HG.out S20.out.b).mark1
      have hw200 : IntKind.i64.wrap (200 + (i : Int)) = 200 + (i : Int) := by rw [IntKind.wrap_i64]; omega
      clear hv
      go_upto_region 24 with fail
      refine start_ (n := 12) (S := fun w' => w'.cell? ⟨g7, i, none⟩ = some (.slice A N c) ∧ w'.cell? ⟨0, 0, none⟩ = some (.string ⟨#[109, 97, 114, 107]⟩) ∧ w'.cell? ⟨0, 1, none⟩ = some (.int .i64 77)) (ds := [11]) (bl 0 12) (by kernel_rfl) rfl rfl ⟨hld, hm0, hm1⟩ (fun hHeld => ?_)
      have S21 := Aside0.mk (S20.out.below (drew_below wr))
      generalize wr.drew = w21 at S21 hHeld ⊢
      clear hld hm0 hm1 S20
      refine pure_ (i := 0) (N := some 115) (v := ?_) (a' := ?_) (bl 1 11) rfl rfl (by kernel_rfl) (fun _ _ _ h => h) (Or.inl ⟨by rfl, ?_⟩) ?_ ?_
      rotate_left
      · intro w'
        go_simp
        with_reducible rfl
      rotate_left
      · simp only [pu_]
        rfl
      refine pure_ (i := 1) (N := some 116) (v := ?_) (a' := ?_) (bl 2 10) rfl rfl (by kernel_rfl) (fun _ _ _ h => h) (Or.inl ⟨by rfl, ?_⟩) ?_ ?_
      rotate_left
      · intro w'
        go_simp
        with_reducible rfl
      rotate_left
      · simp only [pu_]
        rfl
      refine pure_ (i := 2) (N := some 117) (v := ?_) (a' := ?_) (bl 3 9) rfl rfl (by kernel_rfl) (fun _ _ _ h => h) (Or.inl ⟨by rfl, ?_⟩) ?_ ?_
      rotate_left
      · intro w'
        go_simp
        with_reducible rfl
      rotate_left
      · simp only [pu_]
        rfl
      refine take_ (i := 3) (N := some 118) (v := ?_) (a' := ?_) (bl 4 8) rfl rfl (by kernel_rfl) (fun _ _ _ h => h) (Or.inl ⟨by rfl, ?_⟩) hHeld ?_ ?_
      rotate_left
      · rintro w' ⟨s0, s1, s2⟩
        go_simp
        with_reducible rfl
      rotate_left
      · simp only [pu_]
        rfl
      refine pure_ (i := 4) (N := some 119) (v := ?_) (a' := ?_) (bl 5 7) rfl rfl (by kernel_rfl) (fun _ _ _ h => h) (Or.inl ⟨by rfl, ?_⟩) ?_ ?_
      rotate_left
      · intro w'
        go_simp
        with_reducible rfl
      rotate_left
      · simp only [pu_]
        rfl
      refine pure_ (i := 5) (N := some 120) (v := ?_) (a' := ?_) (bl 6 6) rfl rfl (by kernel_rfl) (fun _ _ _ h => h) (Or.inl ⟨by rfl, ?_⟩) ?_ ?_
      rotate_left
      · intro w'
        go_simp
        with_reducible rfl
      rotate_left
      · simp only [pu_]
        rfl
      refine pure_ (i := 6) (N := some 121) (v := ?_) (a' := ?_) (bl 7 5) rfl rfl (by kernel_rfl) (fun _ _ _ h => h) (Or.inl ⟨by rfl, ?_⟩) ?_ ?_
      rotate_left
      · intro w'
        go_simp
        with_reducible rfl
      rotate_left
      · simp only [pu_]
        rfl
      refine take_ (i := 7) (N := some 122) (v := ?_) (a' := ?_) (bl 8 4) rfl rfl (by kernel_rfl) (fun _ _ _ h => h) (Or.inl ⟨by rfl, ?_⟩) hHeld ?_ ?_
      rotate_left
      · rintro w' ⟨s0, s1, s2⟩
        go_simp
        with_reducible rfl
      rotate_left
      · simp only [pu_]
        rfl
      refine one_ (i := 8) (N := some 123) (bl 9 3) rfl rfl (by kernel_rfl) (by decide) (fun K hK => ?_)
      refine value_ (w1 := ?_) (v := ?_) (by rfl) rfl ?_ ?_
      rotate_left 2
      · go_simp
        constructor
        · rfl
        · rfl
      have S22 := Aside0.mk (S21.out.below ((Below.refl w21.heap.size w21).alloc (Nat.le_refl _) (.cells #[.string ⟨#[118]⟩, .int .i64 (200 + (i : Int)), .string ⟨#[109, 97, 114, 107]⟩, .int .i64 77] 57)))
      have hnew := blk_new w21 (.cells #[.string ⟨#[118]⟩, .int .i64 (200 + (i : Int)), .string ⟨#[109, 97, 114, 107]⟩, .int .i64 77] 57)
      refine hK.out _ _ ⟨(blk_cell S22.out.ar i).trans ((List.getElem?_toArray ..).trans HV.out), (GlobM.below HG.out S22.out.b).mark0, (GlobM.below HG.out S22.out.b).mark1⟩ (fun hHeld => ?_)
      clear hK K
      refine norm_ (a' := ?_) ?_ ?_
      rotate_left
      · show Act.put _ (some 123) _ = _
        simp only [pu_]
        rfl
      obtain ⟨H0, hH0⟩ : ∃ H0, H0 = w21.heap.size := ⟨_, rfl⟩
      rw [← hH0] at hnew ⊢
      clear hH0 S21
      generalize w21.alloc _ = w22 at S22 hnew hHeld ⊢
      have hown := S22.out.bag.get (S22.out.row HV.out HL.out)
      rw [List.length_replicate] at hown
      have HO22 := Lib.hid hown
      have HNW := Lib.hid hnew
      clear hown hnew HO
      refine one_ (i := 9) (N := some 124) (bl 10 2) rfl rfl (by kernel_rfl) (by decide) (fun K hK => ?_)
      rw [if_pos (by rfl)]
      refine wp_append_lies _ (.tmp 118) (.tmp 123) 46 rfl w.heap.size 57 i0 _ 2 24 hu46 HI.out HZ.out.1 HZ.out.2.1 HZ.out.2.2 (by decide) (by decide) (.slice A N c) N _ rfl HO22.out ⟨H0, 0, none⟩ 2 2 [.string ⟨#[118]⟩, .int .i64 (200 + (i : Int)), .string ⟨#[109, 97, 114, 107]⟩, .int .i64 77] rfl rfl (by simpa using World.news_of_block HNW.out) ?one (by decide) (by simp only [maxLen]; omega) (by omega) (below_size S22.out.b) _ rfl ?_
      case one => intro u hu; simp at hu; rcases hu with rfl | rfl | rfl | rfl <;> rfl
      intro g1 cap w23 hown hg hat hlt1
      rw [flat_behind i, ← flatL_app] at hown
      have S23 := Aside0.mk (S22.out.app HV.out HL.out (L' := List.replicate N (wS i) ++ [vS i, markS]) (by simp) hown hg hat)
      clear hown hg hat S22
      refine hK.out _ _ ⟨(blk_cell S23.out.ar i).trans ((List.getElem?_toArray ..).trans HV.out), (GlobM.below HG.out S23.out.b).mark0, (GlobM.below HG.out S23.out.b).mark1⟩ (fun hHeld => ?_)
      clear hK K
      refine norm_ (a' := ?_) ?_ ?_
      rotate_left
      · show Act.put _ (some 124) _ = _
        simp only [pu_]
        rfl
      refine pure_ (i := 10) (N := some 125) (v := ?_) (a' := ?_) (bl 11 1) rfl rfl (by kernel_rfl) (fun _ _ _ h => h) (Or.inl ⟨by rfl, ?_⟩) ?_ ?_
      rotate_left
      · intro w'
        go_simp
        with_reducible rfl
      rotate_left
      · simp only [pu_]
        rfl
      refine last_ (i := 11) (N := none) (bl 12 0) rfl rfl (by kernel_rfl) (by decide) (fun K hK => ?_)
      have hcs := (blk_cell S23.out.ar i).trans ((List.getElem?_toArray ..).trans HV.out)
      have hfs := blk_frozen S23.out.ar i
      refine skip_ (w1 := ?_) (by rfl) rfl ?_ ?_
      rotate_left
      · go_simp
        rfl
      refine hK.out _ _ ?_
      clear hK K
      refine done_ (by kernel_rfl) ?_
      have S24 := Aside0.mk S23.out.store
      clear hcs hfs S23
      go_wp2
      go_roundg g
      case measure => omega
      case rel => exact ⟨i + 1, us.set i (.slice (some ⟨g1, 0, none⟩) (N + 2) cap), by go_num, by omega, by omega, ⟨by rw [List.length_set]; exact HVL.out⟩, ⟨by have := S24.out; rw [show (dsAt Ls i).set i (List.replicate N (wS i) ++ [vS i, markS]) = dsAt Ls (i + 1) from by rw [HNE.out]; exact dsAt_next Ls i hlt] at this; exact this⟩⟩
def bursarlaw03_QuantApart.f (k : Nat) (l0 l1 : List S57) : Option Bool :=
  (bursarlaw03_known.f k).bind fun t => if t = true then ((quant_Normal.f k l0).bind fun n => ((quant_Plus.f k l0 l1).bind fun p => ((quant_Minus.f k l0 l1).bind fun m => ((quant_Minus.f k l0 []).bind fun d =>
    ((bursarlaw03_untouched.f k (l0 ++ [markS]) l0).bind fun u => ((bursarlaw03_untouched.f k (l1 ++ [markS]) l1).bind fun v =>
      if u = true ∧ v = true ∧ (l0.length ≤ 4000000 ∧ l1.length ≤ 4000000) ∧ (n.1.length ≤ 4000000 ∧ p.1.length ≤ 4000000 ∧ m.1.length ≤ 4000000 ∧ d.1.length ≤ 4000000) then some true else none)))))) else none
theorem bursarlaw03_QuantApart.calls (k : Nat) (A0 : Option Addr) (c0 : Nat) (l0 : List S57) (A1 : Option Addr) (c1 : Nat) (l1 : List S57) (r : Bool) (w : World) (hr0 : Kd.C k57 w A0 l0.length l0) (hc0 : l0.length ≤ c0) (hr1 : Kd.C k57 w A1 l1.length l1) (hc1 : l1.length ≤ c1) (h : bursarlaw03_QuantApart.f k l0 l1 = some r) (hG : GlobM w) :
    Calls Tryz.prog 13 #[.slice A0 l0.length c0, .slice A1 l1.length c1] w fun e w' => e = .returned (.bool r) ∧ Below w.heap.size w w' := by
  unfold bursarlaw03_QuantApart.f at h
  obtain ⟨t, hk, h⟩ := Option.bind_eq_some_iff.mp h
  by_cases ht : t = true
  rotate_left
  · rw [if_neg ht] at h; cases h
  subst ht
  rw [if_pos rfl] at h
  obtain ⟨⟨n, en⟩, hn, h⟩ := Option.bind_eq_some_iff.mp h
  obtain ⟨⟨p, ep⟩, hp, h⟩ := Option.bind_eq_some_iff.mp h
  obtain ⟨⟨m, em⟩, hm, h⟩ := Option.bind_eq_some_iff.mp h
  obtain ⟨⟨d, ed⟩, hd, h⟩ := Option.bind_eq_some_iff.mp h
  obtain ⟨u, hu, h⟩ := Option.bind_eq_some_iff.mp h
  obtain ⟨v, hv, h⟩ := Option.bind_eq_some_iff.mp h
  by_cases hc : u = true ∧ v = true ∧ (l0.length ≤ 4000000 ∧ l1.length ≤ 4000000) ∧ (n.length ≤ 4000000 ∧ p.length ≤ 4000000 ∧ m.length ≤ 4000000 ∧ d.length ≤ 4000000)
  rotate_left
  · rw [if_neg hc] at h; cases h
  rw [if_pos hc] at h
  obtain rfl := Option.some.inj h
  obtain ⟨rfl, rfl, ⟨h0, h1⟩, hl⟩ := hc
  exact apart_walk k A0 c0 l0 A1 c1 l1 n p m d en ep em ed w hr0 hc0 hr1 hc1 h0 h1 hk hn hp hm hd hl hu hv hG
end Go.Proofs.YtejgbdclhlolkaaGreatDoor.Q
namespace Go.Proofs.YtejgbdclhlolkaaGreatDoor.Q
open Go.RowKit Go.Proofs.YtejgbdclhlolkaaGreatDoorW.PrintWords Go.Proofs.YtejgbdclhlolkaaGreatDoorW.PrintLast Go.Proofs.YtejgbdclhlolkaaGreatDoorW.PrintMore
attribute [local go_sem] max2_int min2_int max_two min_two max_three min_three max_four min_four   -- for this text's walks alone
set_option linter.unusedVariables false
set_option linter.unusedSimpArgs false
def quant_Of.l0 : Nat → ByteArray → List (S57) → Int → Int → Option (Int × Bool)
|0,_,_,_,_ => none
|k + 1,x1,x8,x9,x10 => if x10 < x9 then (if 0 ≤ x10 then (if x10 < (x8.length : Int) then (if ((rd_T57 x8 x10).f0).toList = x1.toList then (some ((rd_T57 x8 x10).f1,true)) else (quant_Of.l0 k x1 x8 x9 (wrap64 (x10 + 1)))) else (none)) else (none)) else (some (0,false))
def quant_Of.f (k : Nat) (l0 : List (S57)) (a1 : ByteArray) : Option (Int × Bool) := quant_Of.l0 k a1 l0 (l0.length : Int) 0
theorem quant_Of.mono_l : ∀ k, (∀ y0 y1 y2 y3, LeO (quant_Of.l0 k y0 y1 y2 y3) (quant_Of.l0 (k + 1) y0 y1 y2 y3))
|0 => fun _ _ _ _ r h => by simp [quant_Of.l0] at h
|k + 1 => by
  have ih0:=quant_Of.mono_l k
  ·intro y0 y1 y2 y3
   unfold quant_Of.l0
   repeat' first
  |(with_reducible exact ih0 _ _ _ _)
  |(with_reducible exact LeO.refl _)
  |(with_reducible exact LeO.none _)
  |(with_reducible refine LeO.ite ?_ ?_)
  |(with_reducible refine LeO.bind ?_ (fun _ => ?_))
  |exact ih0 _ _ _ _
  |exact LeO.none _
  |refine LeO.ite ?_ ?_
  |refine LeO.bind ?_ (fun _ => ?_)
theorem quant_Of.mono : ∀ a0 a1 k, LeO (quant_Of.f k a0 a1) (quant_Of.f (k + 1) a0 a1) := by
 intro a0 a1 k
 have ih0:=quant_Of.mono_l k
 unfold quant_Of.f
 repeat' first
  |(with_reducible exact ih0 _ _ _ _)
  |(with_reducible exact LeO.refl _)
  |(with_reducible exact LeO.none _)
  |(with_reducible refine LeO.ite ?_ ?_)
  |(with_reducible refine LeO.bind ?_ (fun _ => ?_))
  |exact ih0 _ _ _ _
  |exact LeO.none _
  |refine LeO.ite ?_ ?_
  |refine LeO.bind ?_ (fun _ => ?_)
end Go.Proofs.YtejgbdclhlolkaaGreatDoor.Q
namespace Go.Proofs.YtejgbdclhlolkaaGreatDoor.Q
open Go.RowKit Go.Proofs.YtejgbdclhlolkaaGreatDoorW.PrintWords Go.Proofs.YtejgbdclhlolkaaGreatDoorW.PrintLast Go.Proofs.YtejgbdclhlolkaaGreatDoorW.PrintMore
attribute [local go_sem] max2_int min2_int max_two min_two max_three min_three max_four min_four   -- for this text's walks alone
set_option linter.unusedVariables false
set_option linter.unusedSimpArgs false
def quant_Within.l0 : Nat → List (S57) → List (S57) → Int → Int → Option (ByteArray × Int)
|0,_,_,_,_ => none
|k + 1,x0,x14,x15,x16 => if x16 < x15 then (if 0 ≤ x16 then (if x16 < (x14.length : Int) then ((quant_Of.f k x0 ((rd_T57 x14 x16).f0)).bind fun bt609 => (if bt609.1 > ((rd_T57 x14 x16).f1) then (some ((rd_T57 x14 x16).f0,0)) else (quant_Within.l0 k x0 x14 x15 (wrap64 (x16 + 1))))) else (none)) else (none)) else (some ((⟨#[]⟩ : ByteArray),0))
def quant_Within.f (k : Nat) (l0 : List (S57)) (l1 : List (S57)) : Option (ByteArray × Int) := (quant_valid.f k l0 l1).bind fun t606 => (if t606 = true then (quant_Within.l0 k l0 l1 (l1.length : Int) 0) else (some ((⟨#[]⟩ : ByteArray), 31)))
theorem quant_Within.mono_l : ∀ k, (∀ y0 y1 y2 y3, LeO (quant_Within.l0 k y0 y1 y2 y3) (quant_Within.l0 (k + 1) y0 y1 y2 y3))
|0 => fun _ _ _ _ r h => by simp [quant_Within.l0] at h
|k + 1 => by
  have ih0:=quant_Within.mono_l k
  ·intro y0 y1 y2 y3
   unfold quant_Within.l0
   repeat' first
  |(with_reducible exact ih0 _ _ _ _)
  |(with_reducible exact quant_Of.mono _ _ _)
  |(with_reducible exact quant_valid.mono _ _ _)
  |(with_reducible exact LeO.refl _)
  |(with_reducible exact LeO.none _)
  |(with_reducible refine LeO.ite ?_ ?_)
  |(with_reducible refine LeO.bind ?_ (fun _ => ?_))
  |exact ih0 _ _ _ _
  |exact quant_Of.mono _ _ _
  |exact quant_valid.mono _ _ _
  |exact LeO.none _
  |refine LeO.ite ?_ ?_
  |refine LeO.bind ?_ (fun _ => ?_)
theorem quant_Within.mono : ∀ a0 a1 k, LeO (quant_Within.f k a0 a1) (quant_Within.f (k + 1) a0 a1) := by
 intro a0 a1 k
 have ih0:=quant_Within.mono_l k
 unfold quant_Within.f
 repeat' first
  |(with_reducible exact ih0 _ _ _ _)
  |(with_reducible exact quant_Of.mono _ _ _)
  |(with_reducible exact quant_valid.mono _ _ _)
  |(with_reducible exact LeO.refl _)
  |(with_reducible exact LeO.none _)
  |(with_reducible refine LeO.ite ?_ ?_)
  |(with_reducible refine LeO.bind ?_ (fun _ => ?_))
  |exact ih0 _ _ _ _
  |exact quant_Of.mono _ _ _
  |exact quant_valid.mono _ _ _
  |exact LeO.none _
  |refine LeO.ite ?_ ?_
  |refine LeO.bind ?_ (fun _ => ?_)
end Go.Proofs.YtejgbdclhlolkaaGreatDoor.Q
namespace Go.Proofs.YtejgbdclhlolkaaGreatDoor.Q
open Go.RowKit Go.Proofs.YtejgbdclhlolkaaGreatDoorW.PrintWords Go.Proofs.YtejgbdclhlolkaaGreatDoorW.PrintLast Go.Proofs.YtejgbdclhlolkaaGreatDoorW.PrintMore
attribute [local go_sem] max2_int min2_int max_two min_two max_three min_three max_four min_four   -- for this text's walks alone
set_option linter.unusedVariables false
set_option linter.unusedSimpArgs false
def bursarref03_digit.f (a0 : Int) : Option (Bool) := if a0 ≥ 48 then (some (decide (a0 ≤ 57))) else (some false)
end Go.Proofs.YtejgbdclhlolkaaGreatDoor.Q
namespace Go.Proofs.YtejgbdclhlolkaaGreatDoor.Q
end Go.Proofs.YtejgbdclhlolkaaGreatDoor.Q
namespace Go.Proofs.YtejgbdclhlolkaaGreatDoor.Q
open Go.RowKit Go.Proofs.YtejgbdclhlolkaaGreatDoorW.PrintWords Go.Proofs.YtejgbdclhlolkaaGreatDoorW.PrintLast Go.Proofs.YtejgbdclhlolkaaGreatDoorW.PrintMore
attribute [local go_sem] max2_int min2_int max_two min_two max_three min_three max_four min_four   -- for this text's walks alone
set_option linter.unusedVariables false
set_option linter.unusedSimpArgs false
def bursarref03_piece.l0 : Nat → ByteArray → Int → Option (Bool)
|0,_,_ => none
|k + 1,x0,x3 => if x3 < (x0.size : Int) then (if 0 ≤ x3 then (if (bt x0 x3) ≥ 97 then (if (bt x0 x3) ≤ 122 then (bursarref03_piece.l0 k x0 (wrap64 (x3 + 1))) else ((bursarref03_digit.f (bt x0 x3)).bind fun t710 => (if t710 = true then (bursarref03_piece.l0 k x0 (wrap64 (x3 + 1))) else (if (bt x0 x3) = 45 then (if x3 = 0 then (some false) else (if x3 = (wrap64 ((x0.size : Int) - 1)) then (some false) else (bursarref03_piece.l0 k x0 (wrap64 (x3 + 1))))) else (some false))))) else ((bursarref03_digit.f (bt x0 x3)).bind fun t711 => (if t711 = true then (bursarref03_piece.l0 k x0 (wrap64 (x3 + 1))) else (if (bt x0 x3) = 45 then (if x3 = 0 then (some false) else (if x3 = (wrap64 ((x0.size : Int) - 1)) then (some false) else (bursarref03_piece.l0 k x0 (wrap64 (x3 + 1))))) else (some false))))) else (none)) else (some (x0.toList != ([] : List UInt8)))
def bursarref03_piece.f (k : Nat) (a0 : ByteArray) : Option (Bool) := bursarref03_piece.l0 k a0 0
theorem bursarref03_piece.mono_l : ∀ k, (∀ y0 y1, LeO (bursarref03_piece.l0 k y0 y1) (bursarref03_piece.l0 (k + 1) y0 y1))
|0 => fun _ _ r h => by simp [bursarref03_piece.l0] at h
|k + 1 => by
  have ih0:=bursarref03_piece.mono_l k
  ·intro y0 y1
   unfold bursarref03_piece.l0
   repeat' first
  |(with_reducible exact ih0 _ _)
  |(with_reducible exact LeO.refl _)
  |(with_reducible exact LeO.none _)
  |(with_reducible refine LeO.ite ?_ ?_)
  |(with_reducible refine LeO.bind ?_ (fun _ => ?_))
  |exact ih0 _ _
  |exact LeO.none _
  |refine LeO.ite ?_ ?_
  |refine LeO.bind ?_ (fun _ => ?_)
theorem bursarref03_piece.mono : ∀ a0 k, LeO (bursarref03_piece.f k a0) (bursarref03_piece.f (k + 1) a0) := by
 intro a0 k
 have ih0:=bursarref03_piece.mono_l k
 unfold bursarref03_piece.f
 repeat' first
  |(with_reducible exact ih0 _ _)
  |(with_reducible exact LeO.refl _)
  |(with_reducible exact LeO.none _)
  |(with_reducible refine LeO.ite ?_ ?_)
  |(with_reducible refine LeO.bind ?_ (fun _ => ?_))
  |exact ih0 _ _
  |exact LeO.none _
  |refine LeO.ite ?_ ?_
  |refine LeO.bind ?_ (fun _ => ?_)
end Go.Proofs.YtejgbdclhlolkaaGreatDoor.Q
namespace Go.Proofs.YtejgbdclhlolkaaGreatDoor.Q
open Go.RowKit Go.Proofs.YtejgbdclhlolkaaGreatDoorW.PrintWords Go.Proofs.YtejgbdclhlolkaaGreatDoorW.PrintLast Go.Proofs.YtejgbdclhlolkaaGreatDoorW.PrintMore
attribute [local go_sem] max2_int min2_int max_two min_two max_three min_three max_four min_four   -- for this text's walks alone
set_option linter.unusedVariables false
set_option linter.unusedSimpArgs false
def bursarref03_Resource.l0 : Nat → ByteArray → Int → Int → Option (Bool)
|0,_,_,_ => none
|k + 1,x0,x3,x4 => if x4 < (x0.size : Int) then (if 0 ≤ x4 then (if (bt x0 x4) = 46 then (if 0 ≤ x3 then (if x3 ≤ x4 then (if x4 ≤ (x0.size : Int) then ((bursarref03_piece.f k (x0.extract (x3 : Int).toNat (x4 : Int).toNat)).bind fun t713 => (if t713 = true then (bursarref03_Resource.l0 k x0 (wrap64 (x4 + 1)) (wrap64 (x4 + 1))) else (some false))) else (none)) else (none)) else (none)) else (bursarref03_Resource.l0 k x0 x3 (wrap64 (x4 + 1)))) else (none)) else (if (x0.size : Int) ≤ 48 then (if 0 ≤ x3 then (if x3 ≤ (x0.size : Int) then ((bursarref03_piece.f k (x0.extract (x3 : Int).toNat x0.size)).bind fun t712 => (some t712)) else (none)) else (none)) else (some false))
def bursarref03_Resource.f (k : Nat) (a0 : ByteArray) : Option (Bool) := bursarref03_Resource.l0 k a0 0 0
theorem bursarref03_Resource.mono_l : ∀ k, (∀ y0 y1 y2, LeO (bursarref03_Resource.l0 k y0 y1 y2) (bursarref03_Resource.l0 (k + 1) y0 y1 y2))
|0 => fun _ _ _ r h => by simp [bursarref03_Resource.l0] at h
|k + 1 => by
  have ih0:=bursarref03_Resource.mono_l k
  ·intro y0 y1 y2
   unfold bursarref03_Resource.l0
   repeat' first
  |(with_reducible exact ih0 _ _ _)
  |(with_reducible exact bursarref03_piece.mono _ _)
  |(with_reducible exact LeO.refl _)
  |(with_reducible exact LeO.none _)
  |(with_reducible refine LeO.ite ?_ ?_)
  |(with_reducible refine LeO.bind ?_ (fun _ => ?_))
  |exact ih0 _ _ _
  |exact bursarref03_piece.mono _ _
  |exact LeO.none _
  |refine LeO.ite ?_ ?_
  |refine LeO.bind ?_ (fun _ => ?_)
theorem bursarref03_Resource.mono : ∀ a0 k, LeO (bursarref03_Resource.f k a0) (bursarref03_Resource.f (k + 1) a0) := by
 intro a0 k
 have ih0:=bursarref03_Resource.mono_l k
 unfold bursarref03_Resource.f
 repeat' first
  |(with_reducible exact ih0 _ _ _)
  |(with_reducible exact bursarref03_piece.mono _ _)
  |(with_reducible exact LeO.refl _)
  |(with_reducible exact LeO.none _)
  |(with_reducible refine LeO.ite ?_ ?_)
  |(with_reducible refine LeO.bind ?_ (fun _ => ?_))
  |exact ih0 _ _ _
  |exact bursarref03_piece.mono _ _
  |exact LeO.none _
  |refine LeO.ite ?_ ?_
  |refine LeO.bind ?_ (fun _ => ?_)
end Go.Proofs.YtejgbdclhlolkaaGreatDoor.Q
namespace Go.Proofs.YtejgbdclhlolkaaGreatDoor.Q
open Go.RowKit Go.Proofs.YtejgbdclhlolkaaGreatDoorW.PrintWords Go.Proofs.YtejgbdclhlolkaaGreatDoorW.PrintLast Go.Proofs.YtejgbdclhlolkaaGreatDoorW.PrintMore
attribute [local go_sem] binOp_leq_ binOp_gtr_ binOp_geq_ max2_int min2_int max_two min_two max_three min_three max_four min_four   -- for this text's walks alone
set_option linter.unusedVariables false
set_option linter.unusedSimpArgs false
def bursarref03_Valid.l0 : Nat → List (S57) → Int → Option (Int)
|0,_,_ => none
|k + 1,x0,x3 => if x3 < (x0.length : Int) then (if 0 ≤ x3 then ((bursarref03_Resource.f k ((rd_T57 x0 x3).f0)).bind fun t715 => (if t715 = true then (if ((rd_T57 x0 x3).f1) < 0 then (some 31) else (if x3 > 0 then (if 0 ≤ (wrap64 (x3 - 1)) then (if (wrap64 (x3 - 1)) < (x0.length : Int) then (if ((Op.bytesLess (((rd_T57 x0 (wrap64 (x3 - 1))).f0).toList) (((rd_T57 x0 x3).f0).toList)) = true) then (bursarref03_Valid.l0 k x0 (wrap64 (x3 + 1))) else (some 31)) else (none)) else (none)) else (bursarref03_Valid.l0 k x0 (wrap64 (x3 + 1))))) else (some 31))) else (none)) else (some 0)
def bursarref03_Valid.f (k : Nat) (l0 : List (S57)) : Option (Int) := if (l0.length : Int) > 16 then (some 23) else (bursarref03_Valid.l0 k l0 0)
theorem bursarref03_Valid.mono_l : ∀ k, (∀ y0 y1, LeO (bursarref03_Valid.l0 k y0 y1) (bursarref03_Valid.l0 (k + 1) y0 y1))
|0 => fun _ _ r h => by simp [bursarref03_Valid.l0] at h
|k + 1 => by
  have ih0:=bursarref03_Valid.mono_l k
  ·intro y0 y1
   unfold bursarref03_Valid.l0
   repeat' first
  |(with_reducible exact ih0 _ _)
  |(with_reducible exact bursarref03_Resource.mono _ _)
  |(with_reducible exact LeO.refl _)
  |(with_reducible exact LeO.none _)
  |(with_reducible refine LeO.ite ?_ ?_)
  |(with_reducible refine LeO.bind ?_ (fun _ => ?_))
  |exact ih0 _ _
  |exact bursarref03_Resource.mono _ _
  |exact LeO.none _
  |refine LeO.ite ?_ ?_
  |refine LeO.bind ?_ (fun _ => ?_)
theorem bursarref03_Valid.mono : ∀ a0 k, LeO (bursarref03_Valid.f k a0) (bursarref03_Valid.f (k + 1) a0) := by
 intro a0 k
 have ih0:=bursarref03_Valid.mono_l k
 unfold bursarref03_Valid.f
 repeat' first
  |(with_reducible exact ih0 _ _)
  |(with_reducible exact bursarref03_Resource.mono _ _)
  |(with_reducible exact LeO.refl _)
  |(with_reducible exact LeO.none _)
  |(with_reducible refine LeO.ite ?_ ?_)
  |(with_reducible refine LeO.bind ?_ (fun _ => ?_))
  |exact ih0 _ _
  |exact bursarref03_Resource.mono _ _
  |exact LeO.none _
  |refine LeO.ite ?_ ?_
  |refine LeO.bind ?_ (fun _ => ?_)
end Go.Proofs.YtejgbdclhlolkaaGreatDoor.Q
namespace Go.Proofs.YtejgbdclhlolkaaGreatDoor.Q
open Go.RowKit Go.Proofs.YtejgbdclhlolkaaGreatDoorW.PrintWords Go.Proofs.YtejgbdclhlolkaaGreatDoorW.PrintLast Go.Proofs.YtejgbdclhlolkaaGreatDoorW.PrintMore
attribute [local go_sem] max2_int min2_int max_two min_two max_three min_three max_four min_four   -- for this text's walks alone
set_option linter.unusedVariables false
set_option linter.unusedSimpArgs false
def bursarref03_long.l0 : Nat → Int → List Int → Option (List Int)
|0,_,_ => none
|k + 1,x0,x3 => if x0 > 0 then (if x3.length < 17592186044416 then (bursarref03_long.l0 k (wrap64 (Int.tdiv x0 10)) (x3 ++ [Int.tmod x0 10])) else (none)) else (some x3)
def bursarref03_long.f (k : Nat) (a0 : Int) : Option (List Int) := bursarref03_long.l0 k a0 ([] : List Int)
theorem bursarref03_long.mono_l : ∀ k, (∀ y0 y1, LeO (bursarref03_long.l0 k y0 y1) (bursarref03_long.l0 (k + 1) y0 y1))
|0 => fun _ _ r h => by simp [bursarref03_long.l0] at h
|k + 1 => by
  have ih0:=bursarref03_long.mono_l k
  ·intro y0 y1
   unfold bursarref03_long.l0
   repeat' first
  |(with_reducible exact ih0 _ _)
  |(with_reducible exact LeO.refl _)
  |(with_reducible exact LeO.none _)
  |(with_reducible refine LeO.ite ?_ ?_)
  |(with_reducible refine LeO.bind ?_ (fun _ => ?_))
  |exact ih0 _ _
  |exact LeO.none _
  |refine LeO.ite ?_ ?_
  |refine LeO.bind ?_ (fun _ => ?_)
theorem bursarref03_long.mono : ∀ a0 k, LeO (bursarref03_long.f k a0) (bursarref03_long.f (k + 1) a0) := by
 intro a0 k
 have ih0:=bursarref03_long.mono_l k
 unfold bursarref03_long.f
 repeat' first
  |(with_reducible exact ih0 _ _)
  |(with_reducible exact LeO.refl _)
  |(with_reducible exact LeO.none _)
  |(with_reducible refine LeO.ite ?_ ?_)
  |(with_reducible refine LeO.bind ?_ (fun _ => ?_))
  |exact ih0 _ _
  |exact LeO.none _
  |refine LeO.ite ?_ ?_
  |refine LeO.bind ?_ (fun _ => ?_)
end Go.Proofs.YtejgbdclhlolkaaGreatDoor.Q
namespace Go.Proofs.YtejgbdclhlolkaaGreatDoor.Q
open Go.RowKit Go.Proofs.YtejgbdclhlolkaaGreatDoorW.PrintWords Go.Proofs.YtejgbdclhlolkaaGreatDoorW.PrintLast Go.Proofs.YtejgbdclhlolkaaGreatDoorW.PrintMore
attribute [local go_sem] max2_int min2_int max_two min_two max_three min_three max_four min_four   -- for this text's walks alone
set_option linter.unusedVariables false
set_option linter.unusedSimpArgs false
def bursarref03_cut.l0 : Nat → List Int → Int → Option (List Int)
|0,_,_ => none
|k + 1,x0,x3 => if x3 > 0 then (if 0 ≤ (wrap64 (x3 - 1)) then (if (wrap64 (x3 - 1)) < (x0.length : Int) then (if (rd x0 (wrap64 (x3 - 1))) = 0 then (bursarref03_cut.l0 k x0 (wrap64 (x3 - 1))) else (if 0 ≤ x3 then (if x3 ≤ (x0.length : Int) then (some (x0.take (x3 : Int).toNat)) else (none)) else (none))) else (none)) else (none)) else (if 0 ≤ x3 then (if x3 ≤ (x0.length : Int) then (some (x0.take (x3 : Int).toNat)) else (none)) else (none))
def bursarref03_cut.f (k : Nat) (l0 : List Int) : Option (List Int) := bursarref03_cut.l0 k l0 (l0.length : Int)
theorem bursarref03_cut.mono_l : ∀ k, (∀ y0 y1, LeO (bursarref03_cut.l0 k y0 y1) (bursarref03_cut.l0 (k + 1) y0 y1))
|0 => fun _ _ r h => by simp [bursarref03_cut.l0] at h
|k + 1 => by
  have ih0:=bursarref03_cut.mono_l k
  ·intro y0 y1
   unfold bursarref03_cut.l0
   repeat' first
  |(with_reducible exact ih0 _ _)
  |(with_reducible exact LeO.refl _)
  |(with_reducible exact LeO.none _)
  |(with_reducible refine LeO.ite ?_ ?_)
  |(with_reducible refine LeO.bind ?_ (fun _ => ?_))
  |exact ih0 _ _
  |exact LeO.none _
  |refine LeO.ite ?_ ?_
  |refine LeO.bind ?_ (fun _ => ?_)
theorem bursarref03_cut.mono : ∀ a0 k, LeO (bursarref03_cut.f k a0) (bursarref03_cut.f (k + 1) a0) := by
 intro a0 k
 have ih0:=bursarref03_cut.mono_l k
 unfold bursarref03_cut.f
 repeat' first
  |(with_reducible exact ih0 _ _)
  |(with_reducible exact LeO.refl _)
  |(with_reducible exact LeO.none _)
  |(with_reducible refine LeO.ite ?_ ?_)
  |(with_reducible refine LeO.bind ?_ (fun _ => ?_))
  |exact ih0 _ _
  |exact LeO.none _
  |refine LeO.ite ?_ ?_
  |refine LeO.bind ?_ (fun _ => ?_)
end Go.Proofs.YtejgbdclhlolkaaGreatDoor.Q
namespace Go.Proofs.YtejgbdclhlolkaaGreatDoor.Q
open Go.RowKit Go.Proofs.YtejgbdclhlolkaaGreatDoorW.PrintWords Go.Proofs.YtejgbdclhlolkaaGreatDoorW.PrintLast Go.Proofs.YtejgbdclhlolkaaGreatDoorW.PrintMore
attribute [local go_sem] max2_int min2_int max_two min_two max_three min_three max_four min_four   -- for this text's walks alone
set_option linter.unusedVariables false
set_option linter.unusedSimpArgs false
def bursarref03_Long_at.f (l0_0 : List Int) (a1 : Int) : Option (Int) := if a1 < (l0_0.length : Int) then (if 0 ≤ a1 then (some (rd l0_0 a1)) else (none)) else (some 0)
end Go.Proofs.YtejgbdclhlolkaaGreatDoor.Q
namespace Go.Proofs.YtejgbdclhlolkaaGreatDoor.Q
open Go.RowKit Go.Proofs.YtejgbdclhlolkaaGreatDoorW.PrintWords Go.Proofs.YtejgbdclhlolkaaGreatDoorW.PrintLast Go.Proofs.YtejgbdclhlolkaaGreatDoorW.PrintMore
attribute [local go_sem] max2_int min2_int max_two min_two max_three min_three max_four min_four   -- for this text's walks alone
set_option linter.unusedVariables false
set_option linter.unusedSimpArgs false
mutual
def bursarref03_Long_plus.l0 : Nat → List Int → Int → Int → List Int → List Int → Option (List Int)
|0,_,_,_,_,_ => none
|k + 1,x5,x6,x7,x241000,x242000 => if x7 < (x241000.length : Int) then (bursarref03_Long_plus.j1 k x5 x6 x7 true x241000 x242000) else (if x7 < (x242000.length : Int) then (bursarref03_Long_plus.j1 k x5 x6 x7 true x241000 x242000) else (bursarref03_Long_plus.j1 k x5 x6 x7 (decide (x6 > 0)) x241000 x242000))
def bursarref03_Long_plus.j1 : Nat → List Int → Int → Int → Bool → List Int → List Int → Option (List Int)
|0,_,_,_,_,_,_ => none
|k + 1,x5,x6,x7,x24,x241000,x242000 => if x24 = true then ((bursarref03_Long_at.f x241000 x7).bind fun t243 => ((bursarref03_Long_at.f x242000 x7).bind fun t244 => (if x5.length < 17592186044416 then (bursarref03_Long_plus.l0 k (x5 ++ [Int.tmod (wrap64 ((wrap64 (t243 + t244)) + x6)) 10]) (wrap64 (Int.tdiv (wrap64 ((wrap64 (t243 + t244)) + x6)) 10)) (wrap64 (x7 + 1)) x241000 x242000) else (none)))) else ((bursarref03_cut.f k x5).bind fun t248 => (some t248))
end
def bursarref03_Long_plus.f (k : Nat) (l0_0 : List Int) (l1_0 : List Int) : Option (List Int) := bursarref03_Long_plus.l0 k ([] : List Int) 0 0 l0_0 l1_0
theorem bursarref03_Long_plus.mono_l : ∀ k, (∀ y0 y1 y2 y3 y4, LeO (bursarref03_Long_plus.l0 k y0 y1 y2 y3 y4) (bursarref03_Long_plus.l0 (k + 1) y0 y1 y2 y3 y4)) ∧ (∀ y0 y1 y2 y3 y4 y5, LeO (bursarref03_Long_plus.j1 k y0 y1 y2 y3 y4 y5) (bursarref03_Long_plus.j1 (k + 1) y0 y1 y2 y3 y4 y5))
|0 => ⟨fun _ _ _ _ _ r h => by simp [bursarref03_Long_plus.l0] at h,fun _ _ _ _ _ _ r h => by simp [bursarref03_Long_plus.j1] at h⟩
|k + 1 => by
  obtain ⟨ih0,ih1⟩:=bursarref03_Long_plus.mono_l k
  refine ⟨?_,?_⟩
  ·intro y0 y1 y2 y3 y4
   unfold bursarref03_Long_plus.l0
   repeat' first
  |(with_reducible exact ih0 _ _ _ _ _)
  |(with_reducible exact ih1 _ _ _ _ _ _)
  |(with_reducible exact bursarref03_cut.mono _ _)
  |(with_reducible exact LeO.refl _)
  |(with_reducible exact LeO.none _)
  |(with_reducible refine LeO.ite ?_ ?_)
  |(with_reducible refine LeO.bind ?_ (fun _ => ?_))
  |exact ih0 _ _ _ _ _
  |exact ih1 _ _ _ _ _ _
  |exact bursarref03_cut.mono _ _
  |exact LeO.none _
  |refine LeO.ite ?_ ?_
  |refine LeO.bind ?_ (fun _ => ?_)
  ·intro y0 y1 y2 y3 y4 y5
   unfold bursarref03_Long_plus.j1
   repeat' first
  |(with_reducible exact ih0 _ _ _ _ _)
  |(with_reducible exact ih1 _ _ _ _ _ _)
  |(with_reducible exact bursarref03_cut.mono _ _)
  |(with_reducible exact LeO.refl _)
  |(with_reducible exact LeO.none _)
  |(with_reducible refine LeO.ite ?_ ?_)
  |(with_reducible refine LeO.bind ?_ (fun _ => ?_))
  |exact ih0 _ _ _ _ _
  |exact ih1 _ _ _ _ _ _
  |exact bursarref03_cut.mono _ _
  |exact LeO.none _
  |refine LeO.ite ?_ ?_
  |refine LeO.bind ?_ (fun _ => ?_)
theorem bursarref03_Long_plus.mono : ∀ a0 a1 k, LeO (bursarref03_Long_plus.f k a0 a1) (bursarref03_Long_plus.f (k + 1) a0 a1) := by
 intro a0 a1 k
 obtain ⟨ih0,ih1⟩:=bursarref03_Long_plus.mono_l k
 unfold bursarref03_Long_plus.f
 repeat' first
  |(with_reducible exact ih0 _ _ _ _ _)
  |(with_reducible exact ih1 _ _ _ _ _ _)
  |(with_reducible exact bursarref03_cut.mono _ _)
  |(with_reducible exact LeO.refl _)
  |(with_reducible exact LeO.none _)
  |(with_reducible refine LeO.ite ?_ ?_)
  |(with_reducible refine LeO.bind ?_ (fun _ => ?_))
  |exact ih0 _ _ _ _ _
  |exact ih1 _ _ _ _ _ _
  |exact bursarref03_cut.mono _ _
  |exact LeO.none _
  |refine LeO.ite ?_ ?_
  |refine LeO.bind ?_ (fun _ => ?_)
end Go.Proofs.YtejgbdclhlolkaaGreatDoor.Q
namespace Go.Proofs.YtejgbdclhlolkaaGreatDoor.Q
open Go.RowKit Go.Proofs.YtejgbdclhlolkaaGreatDoorW.PrintWords Go.Proofs.YtejgbdclhlolkaaGreatDoorW.PrintLast Go.Proofs.YtejgbdclhlolkaaGreatDoorW.PrintMore
attribute [local go_sem] max2_int min2_int max_two min_two max_three min_three max_four min_four   -- for this text's walks alone
set_option linter.unusedVariables false
set_option linter.unusedSimpArgs false
def bursarref03_Long_less.l0 : Nat → Int → List Int → List Int → Option (Bool)
|0,_,_,_ => none
|k + 1,x5,x194000,x195000 => if x5 ≥ 0 then (if 0 ≤ x5 then (if x5 < (x194000.length : Int) then (if x5 < (x195000.length : Int) then (if (rd x194000 x5) = (rd x195000 x5) then (bursarref03_Long_less.l0 k (wrap64 (x5 - 1)) x194000 x195000) else (some (decide ((rd x194000 x5) < (rd x195000 x5))))) else (none)) else (none)) else (none)) else (some false)
def bursarref03_Long_less.f (k : Nat) (l0_0 : List Int) (l1_0 : List Int) : Option (Bool) := if (l0_0.length : Int) = (l1_0.length : Int) then (bursarref03_Long_less.l0 k (wrap64 ((l0_0.length : Int) - 1)) l0_0 l1_0) else (some (decide ((l0_0.length : Int) < (l1_0.length : Int))))
theorem bursarref03_Long_less.mono_l : ∀ k, (∀ y0 y1 y2, LeO (bursarref03_Long_less.l0 k y0 y1 y2) (bursarref03_Long_less.l0 (k + 1) y0 y1 y2))
|0 => fun _ _ _ r h => by simp [bursarref03_Long_less.l0] at h
|k + 1 => by
  have ih0:=bursarref03_Long_less.mono_l k
  ·intro y0 y1 y2
   unfold bursarref03_Long_less.l0
   repeat' first
  |(with_reducible exact ih0 _ _ _)
  |(with_reducible exact LeO.refl _)
  |(with_reducible exact LeO.none _)
  |(with_reducible refine LeO.ite ?_ ?_)
  |(with_reducible refine LeO.bind ?_ (fun _ => ?_))
  |exact ih0 _ _ _
  |exact LeO.none _
  |refine LeO.ite ?_ ?_
  |refine LeO.bind ?_ (fun _ => ?_)
theorem bursarref03_Long_less.mono : ∀ a0 a1 k, LeO (bursarref03_Long_less.f k a0 a1) (bursarref03_Long_less.f (k + 1) a0 a1) := by
 intro a0 a1 k
 have ih0:=bursarref03_Long_less.mono_l k
 unfold bursarref03_Long_less.f
 repeat' first
  |(with_reducible exact ih0 _ _ _)
  |(with_reducible exact LeO.refl _)
  |(with_reducible exact LeO.none _)
  |(with_reducible refine LeO.ite ?_ ?_)
  |(with_reducible refine LeO.bind ?_ (fun _ => ?_))
  |exact ih0 _ _ _
  |exact LeO.none _
  |refine LeO.ite ?_ ?_
  |refine LeO.bind ?_ (fun _ => ?_)
end Go.Proofs.YtejgbdclhlolkaaGreatDoor.Q
namespace Go.Proofs.YtejgbdclhlolkaaGreatDoor.Q
open Go.RowKit Go.Proofs.YtejgbdclhlolkaaGreatDoorW.PrintWords Go.Proofs.YtejgbdclhlolkaaGreatDoorW.PrintLast Go.Proofs.YtejgbdclhlolkaaGreatDoorW.PrintMore
attribute [local go_sem] max2_int min2_int max_two min_two max_three min_three max_four min_four   -- for this text's walks alone
set_option linter.unusedVariables false
set_option linter.unusedSimpArgs false
def bursarref03_Long_value.l0 : Nat → Int → Int → List Int → Option (Int × Bool)
|0,_,_,_ => none
|k + 1,x4,x5,x252000 => if x5 ≥ 0 then (if 0 ≤ x5 then (if x5 < (x252000.length : Int) then (bursarref03_Long_value.l0 k (wrap64 ((wrap64 (x4 * 10)) + (rd x252000 x5))) (wrap64 (x5 - 1)) x252000) else (none)) else (none)) else (some (x4,true))
def bursarref03_Long_value.f (k : Nat) (l0_0 : List Int) : Option (Int × Bool) := (bursarref03_long.f k 9223372036854775807).bind fun t252 => ((bursarref03_Long_less.f k t252 l0_0).bind fun t255 => (if t255 = true then (some (0, false)) else (bursarref03_Long_value.l0 k 0 (wrap64 ((l0_0.length : Int) - 1)) l0_0)))
theorem bursarref03_Long_value.mono_l : ∀ k, (∀ y0 y1 y2, LeO (bursarref03_Long_value.l0 k y0 y1 y2) (bursarref03_Long_value.l0 (k + 1) y0 y1 y2))
|0 => fun _ _ _ r h => by simp [bursarref03_Long_value.l0] at h
|k + 1 => by
  have ih0:=bursarref03_Long_value.mono_l k
  ·intro y0 y1 y2
   unfold bursarref03_Long_value.l0
   repeat' first
  |(with_reducible exact ih0 _ _ _)
  |(with_reducible exact bursarref03_Long_less.mono _ _ _)
  |(with_reducible exact bursarref03_long.mono _ _)
  |(with_reducible exact LeO.refl _)
  |(with_reducible exact LeO.none _)
  |(with_reducible refine LeO.ite ?_ ?_)
  |(with_reducible refine LeO.bind ?_ (fun _ => ?_))
  |exact ih0 _ _ _
  |exact bursarref03_Long_less.mono _ _ _
  |exact bursarref03_long.mono _ _
  |exact LeO.none _
  |refine LeO.ite ?_ ?_
  |refine LeO.bind ?_ (fun _ => ?_)
theorem bursarref03_Long_value.mono : ∀ a0 k, LeO (bursarref03_Long_value.f k a0) (bursarref03_Long_value.f (k + 1) a0) := by
 intro a0 k
 have ih0:=bursarref03_Long_value.mono_l k
 unfold bursarref03_Long_value.f
 repeat' first
  |(with_reducible exact ih0 _ _ _)
  |(with_reducible exact bursarref03_Long_less.mono _ _ _)
  |(with_reducible exact bursarref03_long.mono _ _)
  |(with_reducible exact LeO.refl _)
  |(with_reducible exact LeO.none _)
  |(with_reducible refine LeO.ite ?_ ?_)
  |(with_reducible refine LeO.bind ?_ (fun _ => ?_))
  |exact ih0 _ _ _
  |exact bursarref03_Long_less.mono _ _ _
  |exact bursarref03_long.mono _ _
  |exact LeO.none _
  |refine LeO.ite ?_ ?_
  |refine LeO.bind ?_ (fun _ => ?_)
end Go.Proofs.YtejgbdclhlolkaaGreatDoor.Q
namespace Go.Proofs.YtejgbdclhlolkaaGreatDoor.Q
open Go.RowKit Go.Proofs.YtejgbdclhlolkaaGreatDoorW.PrintWords Go.Proofs.YtejgbdclhlolkaaGreatDoorW.PrintLast Go.Proofs.YtejgbdclhlolkaaGreatDoorW.PrintMore
attribute [local go_sem] binOp_leq_ binOp_gtr_ binOp_geq_ max2_int min2_int max_two min_two max_three min_three max_four min_four   -- for this text's walks alone
set_option linter.unusedVariables false
set_option linter.unusedSimpArgs false
def bursarref03_placed.l0 : Nat → List (S57) → List (S57) → Bool → Int → ByteArray → Int → Option ((List (S57)))
|0,_,_,_,_,_,_ => none
|k + 1,x0,x5,x6,x7,x720000,x720001 => if x7 < (x0.length : Int) then (if x6 = true then (if 0 ≤ x7 then (if x5.length < 5864062014805 then (bursarref03_placed.l0 k x0 (x5 ++ [(⟨(rd_T57 x0 x7).f0,(rd_T57 x0 x7).f1⟩ : S57)]) x6 (wrap64 (x7 + 1)) x720000 x720001) else (none)) else (none)) else (if 0 ≤ x7 then (if (Op.bytesLess x720000.toList (((rd_T57 x0 x7).f0).toList)) = true then (if x5.length < 5864062014805 then ((some (x5 ++ [(⟨x720000,x720001⟩ : S57)] : List (S57))).bind fun y725 => (if y725.length < 5864062014805 then (bursarref03_placed.l0 k x0 (y725 ++ [(⟨(rd_T57 x0 x7).f0,(rd_T57 x0 x7).f1⟩ : S57)]) true (wrap64 (x7 + 1)) x720000 x720001) else (none))) else (none)) else (if x5.length < 5864062014805 then (bursarref03_placed.l0 k x0 (x5 ++ [(⟨(rd_T57 x0 x7).f0,(rd_T57 x0 x7).f1⟩ : S57)]) x6 (wrap64 (x7 + 1)) x720000 x720001) else (none))) else (none))) else (if x6 = true then (some x5) else (if x5.length < 5864062014805 then (some (x5 ++ [(⟨x720000,x720001⟩ : S57)])) else (none)))
def bursarref03_placed.f (k : Nat) (l0 : List (S57)) (a1_0 : ByteArray) (a1_1 : Int) : Option ((List (S57))) := bursarref03_placed.l0 k l0 ([] : List (S57)) false 0 a1_0 a1_1
theorem bursarref03_placed.mono_l : ∀ k, (∀ y0 y1 y2 y3 y4 y5, LeO (bursarref03_placed.l0 k y0 y1 y2 y3 y4 y5) (bursarref03_placed.l0 (k + 1) y0 y1 y2 y3 y4 y5))
|0 => fun _ _ _ _ _ _ r h => by simp [bursarref03_placed.l0] at h
|k + 1 => by
  have ih0:=bursarref03_placed.mono_l k
  ·intro y0 y1 y2 y3 y4 y5
   unfold bursarref03_placed.l0
   repeat' first
  |(with_reducible exact ih0 _ _ _ _ _ _)
  |(with_reducible exact LeO.refl _)
  |(with_reducible exact LeO.none _)
  |(with_reducible refine LeO.ite ?_ ?_)
  |(with_reducible refine LeO.bind ?_ (fun _ => ?_))
  |exact ih0 _ _ _ _ _ _
  |exact LeO.none _
  |refine LeO.ite ?_ ?_
  |refine LeO.bind ?_ (fun _ => ?_)
theorem bursarref03_placed.mono : ∀ a0 a1 a2 k, LeO (bursarref03_placed.f k a0 a1 a2) (bursarref03_placed.f (k + 1) a0 a1 a2) := by
 intro a0 a1 a2 k
 have ih0:=bursarref03_placed.mono_l k
 unfold bursarref03_placed.f
 repeat' first
  |(with_reducible exact ih0 _ _ _ _ _ _)
  |(with_reducible exact LeO.refl _)
  |(with_reducible exact LeO.none _)
  |(with_reducible refine LeO.ite ?_ ?_)
  |(with_reducible refine LeO.bind ?_ (fun _ => ?_))
  |exact ih0 _ _ _ _ _ _
  |exact LeO.none _
  |refine LeO.ite ?_ ?_
  |refine LeO.bind ?_ (fun _ => ?_)
end Go.Proofs.YtejgbdclhlolkaaGreatDoor.Q
namespace Go.Proofs.YtejgbdclhlolkaaGreatDoor.Q
open Go.RowKit Go.Proofs.YtejgbdclhlolkaaGreatDoorW.PrintWords Go.Proofs.YtejgbdclhlolkaaGreatDoorW.PrintLast Go.Proofs.YtejgbdclhlolkaaGreatDoorW.PrintMore
attribute [local go_sem] max2_int min2_int max_two min_two max_three min_three max_four min_four   -- for this text's walks alone
set_option linter.unusedVariables false
set_option linter.unusedSimpArgs false
mutual
def bursarref03_Normal.l0 : Nat → List (S57) → Int → Option ((List (S57)) × Int)
|0,_,_ => none
|k + 1,x0,x5 => if x5 < (x0.length : Int) then (if 0 ≤ x5 then ((bursarref03_Resource.f k ((rd_T57 x0 x5).f0)).bind fun t740 => (if t740 = true then (if ((rd_T57 x0 x5).f1) < 0 then (some (([] : List (S57)),31)) else (bursarref03_Normal.l0 k x0 (wrap64 (x5 + 1)))) else (some (([] : List (S57)),31)))) else (none)) else (bursarref03_Normal.l1 k x0 ([] : List (S57)) 0)
def bursarref03_Normal.l1 : Nat → List (S57) → List (S57) → Int → Option ((List (S57)) × Int)
|0,_,_,_ => none
|k + 1,x0,x4,x6 => if x6 < (x0.length : Int) then (bursarref03_Normal.l2 k x0 x4 x6 false 0 ([] : List Int)) else (if (x4.length : Int) > 16 then (some (([] : List (S57)),23)) else (some (x4,0)))
def bursarref03_Normal.l2 : Nat → List (S57) → List (S57) → Int → Bool → Int → List Int → Option ((List (S57)) × Int)
|0,_,_,_,_,_,_ => none
|k + 1,x0,x4,x6,x8,x9,x743000 => if x9 < (x0.length : Int) then (if 0 ≤ x9 then (if 0 ≤ x6 then (if x6 < (x0.length : Int) then (if ((rd_T57 x0 x9).f0).toList = ((rd_T57 x0 x6).f0).toList then ((bursarref03_long.f k ((rd_T57 x0 x9).f1)).bind fun t746 => ((bursarref03_Long_plus.f k x743000 t746).bind fun t749 => (if x8 = true then (bursarref03_Normal.l2 k x0 x4 x6 true (wrap64 (x9 + 1)) t749) else (bursarref03_Normal.l2 k x0 x4 x6 (decide (x9 < x6)) (wrap64 (x9 + 1)) t749)))) else (bursarref03_Normal.l2 k x0 x4 x6 x8 (wrap64 (x9 + 1)) x743000)) else (none)) else (none)) else (none)) else ((bursarref03_Long_value.f k x743000).bind fun bt752 => (if bt752.2 = true then (if x8 = true then (bursarref03_Normal.l1 k x0 x4 (wrap64 (x6 + 1))) else (if 0 ≤ x6 then (if x6 < (x0.length : Int) then ((bursarref03_placed.f k x4 ((rd_T57 x0 x6).f0) bt752.1).bind fun t755 => (bursarref03_Normal.l1 k x0 t755 (wrap64 (x6 + 1)))) else (none)) else (none))) else (some (([] : List (S57)),7))))
end
def bursarref03_Normal.f (k : Nat) (l0 : List (S57)) : Option ((List (S57)) × Int) := bursarref03_Normal.l0 k l0 0
theorem bursarref03_Normal.mono_l : ∀ k, (∀ y0 y1, LeO (bursarref03_Normal.l0 k y0 y1) (bursarref03_Normal.l0 (k + 1) y0 y1)) ∧ (∀ y0 y1 y2, LeO (bursarref03_Normal.l1 k y0 y1 y2) (bursarref03_Normal.l1 (k + 1) y0 y1 y2)) ∧ (∀ y0 y1 y2 y3 y4 y5, LeO (bursarref03_Normal.l2 k y0 y1 y2 y3 y4 y5) (bursarref03_Normal.l2 (k + 1) y0 y1 y2 y3 y4 y5))
|0 => ⟨fun _ _ r h => by simp [bursarref03_Normal.l0] at h,fun _ _ _ r h => by simp [bursarref03_Normal.l1] at h,fun _ _ _ _ _ _ r h => by simp [bursarref03_Normal.l2] at h⟩
|k + 1 => by
  obtain ⟨ih0,ih1,ih2⟩:=bursarref03_Normal.mono_l k
  refine ⟨?_,?_,?_⟩
  ·intro y0 y1
   unfold bursarref03_Normal.l0
   repeat' first
  |(with_reducible exact ih0 _ _)
  |(with_reducible exact ih1 _ _ _)
  |(with_reducible exact ih2 _ _ _ _ _ _)
  |(with_reducible exact bursarref03_Long_plus.mono _ _ _)
  |(with_reducible exact bursarref03_Long_value.mono _ _)
  |(with_reducible exact bursarref03_Resource.mono _ _)
  |(with_reducible exact bursarref03_long.mono _ _)
  |(with_reducible exact bursarref03_placed.mono _ _ _ _)
  |(with_reducible exact LeO.refl _)
  |(with_reducible exact LeO.none _)
  |(with_reducible refine LeO.ite ?_ ?_)
  |(with_reducible refine LeO.bind ?_ (fun _ => ?_))
  |exact ih0 _ _
  |exact ih1 _ _ _
  |exact ih2 _ _ _ _ _ _
  |exact bursarref03_Long_plus.mono _ _ _
  |exact bursarref03_Long_value.mono _ _
  |exact bursarref03_Resource.mono _ _
  |exact bursarref03_long.mono _ _
  |exact bursarref03_placed.mono _ _ _ _
  |exact LeO.none _
  |refine LeO.ite ?_ ?_
  |refine LeO.bind ?_ (fun _ => ?_)
  ·intro y0 y1 y2
   unfold bursarref03_Normal.l1
   repeat' first
  |(with_reducible exact ih0 _ _)
  |(with_reducible exact ih1 _ _ _)
  |(with_reducible exact ih2 _ _ _ _ _ _)
  |(with_reducible exact bursarref03_Long_plus.mono _ _ _)
  |(with_reducible exact bursarref03_Long_value.mono _ _)
  |(with_reducible exact bursarref03_Resource.mono _ _)
  |(with_reducible exact bursarref03_long.mono _ _)
  |(with_reducible exact bursarref03_placed.mono _ _ _ _)
  |(with_reducible exact LeO.refl _)
  |(with_reducible exact LeO.none _)
  |(with_reducible refine LeO.ite ?_ ?_)
  |(with_reducible refine LeO.bind ?_ (fun _ => ?_))
  |exact ih0 _ _
  |exact ih1 _ _ _
  |exact ih2 _ _ _ _ _ _
  |exact bursarref03_Long_plus.mono _ _ _
  |exact bursarref03_Long_value.mono _ _
  |exact bursarref03_Resource.mono _ _
  |exact bursarref03_long.mono _ _
  |exact bursarref03_placed.mono _ _ _ _
  |exact LeO.none _
  |refine LeO.ite ?_ ?_
  |refine LeO.bind ?_ (fun _ => ?_)
  ·intro y0 y1 y2 y3 y4 y5
   unfold bursarref03_Normal.l2
   repeat' first
  |(with_reducible exact ih0 _ _)
  |(with_reducible exact ih1 _ _ _)
  |(with_reducible exact ih2 _ _ _ _ _ _)
  |(with_reducible exact bursarref03_Long_plus.mono _ _ _)
  |(with_reducible exact bursarref03_Long_value.mono _ _)
  |(with_reducible exact bursarref03_Resource.mono _ _)
  |(with_reducible exact bursarref03_long.mono _ _)
  |(with_reducible exact bursarref03_placed.mono _ _ _ _)
  |(with_reducible exact LeO.refl _)
  |(with_reducible exact LeO.none _)
  |(with_reducible refine LeO.ite ?_ ?_)
  |(with_reducible refine LeO.bind ?_ (fun _ => ?_))
  |exact ih0 _ _
  |exact ih1 _ _ _
  |exact ih2 _ _ _ _ _ _
  |exact bursarref03_Long_plus.mono _ _ _
  |exact bursarref03_Long_value.mono _ _
  |exact bursarref03_Resource.mono _ _
  |exact bursarref03_long.mono _ _
  |exact bursarref03_placed.mono _ _ _ _
  |exact LeO.none _
  |refine LeO.ite ?_ ?_
  |refine LeO.bind ?_ (fun _ => ?_)
theorem bursarref03_Normal.mono : ∀ a0 k, LeO (bursarref03_Normal.f k a0) (bursarref03_Normal.f (k + 1) a0) := by
 intro a0 k
 obtain ⟨ih0,ih1,ih2⟩:=bursarref03_Normal.mono_l k
 unfold bursarref03_Normal.f
 repeat' first
  |(with_reducible exact ih0 _ _)
  |(with_reducible exact ih1 _ _ _)
  |(with_reducible exact ih2 _ _ _ _ _ _)
  |(with_reducible exact bursarref03_Long_plus.mono _ _ _)
  |(with_reducible exact bursarref03_Long_value.mono _ _)
  |(with_reducible exact bursarref03_Resource.mono _ _)
  |(with_reducible exact bursarref03_long.mono _ _)
  |(with_reducible exact bursarref03_placed.mono _ _ _ _)
  |(with_reducible exact LeO.refl _)
  |(with_reducible exact LeO.none _)
  |(with_reducible refine LeO.ite ?_ ?_)
  |(with_reducible refine LeO.bind ?_ (fun _ => ?_))
  |exact ih0 _ _
  |exact ih1 _ _ _
  |exact ih2 _ _ _ _ _ _
  |exact bursarref03_Long_plus.mono _ _ _
  |exact bursarref03_Long_value.mono _ _
  |exact bursarref03_Resource.mono _ _
  |exact bursarref03_long.mono _ _
  |exact bursarref03_placed.mono _ _ _ _
  |exact LeO.none _
  |refine LeO.ite ?_ ?_
  |refine LeO.bind ?_ (fun _ => ?_)
end Go.Proofs.YtejgbdclhlolkaaGreatDoor.Q
namespace Go.Proofs.YtejgbdclhlolkaaGreatDoor.Q
open Go.RowKit Go.Proofs.YtejgbdclhlolkaaGreatDoorW.PrintWords Go.Proofs.YtejgbdclhlolkaaGreatDoorW.PrintLast Go.Proofs.YtejgbdclhlolkaaGreatDoorW.PrintMore
attribute [local go_sem] max2_int min2_int max_two min_two max_three min_three max_four min_four   -- for this text's walks alone
set_option linter.unusedVariables false
set_option linter.unusedSimpArgs false
def bursarref03_Plus.f (k : Nat) (l0 : List (S57)) (l1 : List (S57)) : Option ((List (S57)) × Int) := (bursarref03_Valid.f k l0).bind fun t758 => (if t758 = 0 then ((bursarref03_Valid.f k l1).bind fun t759 => (if t759 = 0 then (if ([] : List (S57)).length + l0.length < 5864062014805 then ((some (([] : List (S57)) ++ l0 : List (S57))).bind fun y760 => (if y760.length + l1.length < 5864062014805 then ((bursarref03_Normal.f k (y760 ++ l1)).bind fun bt766 => (some (bt766.1, bt766.2))) else (none))) else (none)) else (some (([] : List (S57)), 31)))) else (some (([] : List (S57)), 31)))
theorem bursarref03_Plus.mono : ∀ a0 a1 k, LeO (bursarref03_Plus.f k a0 a1) (bursarref03_Plus.f (k + 1) a0 a1) := by
 intro a0 a1 k
 unfold bursarref03_Plus.f
 repeat' first
  |(with_reducible exact bursarref03_Normal.mono _ _)
  |(with_reducible exact bursarref03_Valid.mono _ _)
  |(with_reducible exact LeO.refl _)
  |(with_reducible exact LeO.none _)
  |(with_reducible refine LeO.ite ?_ ?_)
  |(with_reducible refine LeO.bind ?_ (fun _ => ?_))
  |exact bursarref03_Normal.mono _ _
  |exact bursarref03_Valid.mono _ _
  |exact LeO.none _
  |refine LeO.ite ?_ ?_
  |refine LeO.bind ?_ (fun _ => ?_)
end Go.Proofs.YtejgbdclhlolkaaGreatDoor.Q
namespace Go.Proofs.YtejgbdclhlolkaaGreatDoor.Q
open Go.RowKit Go.Proofs.YtejgbdclhlolkaaGreatDoorW.PrintWords Go.Proofs.YtejgbdclhlolkaaGreatDoorW.PrintLast Go.Proofs.YtejgbdclhlolkaaGreatDoorW.PrintMore
attribute [local go_sem] max2_int min2_int max_two min_two max_three min_three max_four min_four   -- for this text's walks alone
set_option linter.unusedVariables false
set_option linter.unusedSimpArgs false
def bursarref03_Of.l0 : Nat → List (S57) → ByteArray → Int → Option (Int × Bool)
|0,_,_,_ => none
|k + 1,x0,x1,x6 => if x6 < (x0.length : Int) then (if 0 ≤ x6 then (if ((rd_T57 x0 x6).f0).toList = x1.toList then (some ((rd_T57 x0 x6).f1,true)) else (bursarref03_Of.l0 k x0 x1 (wrap64 (x6 + 1)))) else (none)) else (some (0,false))
def bursarref03_Of.f (k : Nat) (l0 : List (S57)) (a1 : ByteArray) : Option (Int × Bool) := bursarref03_Of.l0 k l0 a1 0
theorem bursarref03_Of.mono_l : ∀ k, (∀ y0 y1 y2, LeO (bursarref03_Of.l0 k y0 y1 y2) (bursarref03_Of.l0 (k + 1) y0 y1 y2))
|0 => fun _ _ _ r h => by simp [bursarref03_Of.l0] at h
|k + 1 => by
  have ih0:=bursarref03_Of.mono_l k
  ·intro y0 y1 y2
   unfold bursarref03_Of.l0
   repeat' first
  |(with_reducible exact ih0 _ _ _)
  |(with_reducible exact LeO.refl _)
  |(with_reducible exact LeO.none _)
  |(with_reducible refine LeO.ite ?_ ?_)
  |(with_reducible refine LeO.bind ?_ (fun _ => ?_))
  |exact ih0 _ _ _
  |exact LeO.none _
  |refine LeO.ite ?_ ?_
  |refine LeO.bind ?_ (fun _ => ?_)
theorem bursarref03_Of.mono : ∀ a0 a1 k, LeO (bursarref03_Of.f k a0 a1) (bursarref03_Of.f (k + 1) a0 a1) := by
 intro a0 a1 k
 have ih0:=bursarref03_Of.mono_l k
 unfold bursarref03_Of.f
 repeat' first
  |(with_reducible exact ih0 _ _ _)
  |(with_reducible exact LeO.refl _)
  |(with_reducible exact LeO.none _)
  |(with_reducible refine LeO.ite ?_ ?_)
  |(with_reducible refine LeO.bind ?_ (fun _ => ?_))
  |exact ih0 _ _ _
  |exact LeO.none _
  |refine LeO.ite ?_ ?_
  |refine LeO.bind ?_ (fun _ => ?_)
end Go.Proofs.YtejgbdclhlolkaaGreatDoor.Q
namespace Go.Proofs.YtejgbdclhlolkaaGreatDoor.Q
open Go.RowKit Go.Proofs.YtejgbdclhlolkaaGreatDoorW.PrintWords Go.Proofs.YtejgbdclhlolkaaGreatDoorW.PrintLast Go.Proofs.YtejgbdclhlolkaaGreatDoorW.PrintMore
attribute [local go_sem] max2_int min2_int max_two min_two max_three min_three max_four min_four   -- for this text's walks alone
set_option linter.unusedVariables false
set_option linter.unusedSimpArgs false
mutual
def bursarref03_Minus.j0 : Nat → List (S57) → List (S57) → Bool → Option ((List (S57)) × Int)
|0,_,_,_ => none
|k + 1,x0,x1,x20 => if x20 = true then (some (([] : List (S57)),31)) else (bursarref03_Minus.l0 k x0 x1 ([] : List (S57)) 0)
def bursarref03_Minus.l0 : Nat → List (S57) → List (S57) → List (S57) → Int → Option ((List (S57)) × Int)
|0,_,_,_,_ => none
|k + 1,x0,x1,x6,x7 => if x7 < (x0.length : Int) then (if 0 ≤ x7 then ((bursarref03_Of.f k x1 ((rd_T57 x0 x7).f0)).bind fun bt773 => (if ((rd_T57 x0 x7).f1) < bt773.1 then (some (([] : List (S57)),1)) else (if x6.length < 5864062014805 then (bursarref03_Minus.l0 k x0 x1 (x6 ++ [(⟨(rd_T57 x0 x7).f0,wrap64 (((rd_T57 x0 x7).f1) - bt773.1)⟩ : S57)]) (wrap64 (x7 + 1))) else (none)))) else (none)) else (bursarref03_Minus.l1 k x0 x1 x6 0)
def bursarref03_Minus.l1 : Nat → List (S57) → List (S57) → List (S57) → Int → Option ((List (S57)) × Int)
|0,_,_,_,_ => none
|k + 1,x0,x1,x6,x10 => if x10 < (x1.length : Int) then (if 0 ≤ x10 then ((bursarref03_Of.f k x0 ((rd_T57 x1 x10).f0)).bind fun bt782 => (if bt782.2 = true then (bursarref03_Minus.l1 k x0 x1 x6 (wrap64 (x10 + 1))) else (if ((rd_T57 x1 x10).f1) > 0 then (some (([] : List (S57)),1)) else ((bursarref03_placed.f k x6 ((rd_T57 x1 x10).f0) 0).bind fun t786 => (bursarref03_Minus.l1 k x0 x1 t786 (wrap64 (x10 + 1))))))) else (none)) else (if (x6.length : Int) > 16 then (some (([] : List (S57)),23)) else (some (x6,0)))
end
def bursarref03_Minus.f (k : Nat) (l0 : List (S57)) (l1 : List (S57)) : Option ((List (S57)) × Int) := (bursarref03_Valid.f k l0).bind fun t770 => (if t770 = 0 then ((bursarref03_Valid.f k l1).bind fun t771 => (bursarref03_Minus.j0 k l0 l1 (t771 != 0))) else (bursarref03_Minus.j0 k l0 l1 true))
theorem bursarref03_Minus.mono_l : ∀ k, (∀ y0 y1 y2, LeO (bursarref03_Minus.j0 k y0 y1 y2) (bursarref03_Minus.j0 (k + 1) y0 y1 y2)) ∧ (∀ y0 y1 y2 y3, LeO (bursarref03_Minus.l0 k y0 y1 y2 y3) (bursarref03_Minus.l0 (k + 1) y0 y1 y2 y3)) ∧ (∀ y0 y1 y2 y3, LeO (bursarref03_Minus.l1 k y0 y1 y2 y3) (bursarref03_Minus.l1 (k + 1) y0 y1 y2 y3))
|0 => ⟨fun _ _ _ r h => by simp [bursarref03_Minus.j0] at h,fun _ _ _ _ r h => by simp [bursarref03_Minus.l0] at h,fun _ _ _ _ r h => by simp [bursarref03_Minus.l1] at h⟩
|k + 1 => by
  obtain ⟨ih0,ih1,ih2⟩:=bursarref03_Minus.mono_l k
  refine ⟨?_,?_,?_⟩
  ·intro y0 y1 y2
   unfold bursarref03_Minus.j0
   repeat' first
  |(with_reducible exact ih0 _ _ _)
  |(with_reducible exact ih1 _ _ _ _)
  |(with_reducible exact ih2 _ _ _ _)
  |(with_reducible exact bursarref03_Of.mono _ _ _)
  |(with_reducible exact bursarref03_Valid.mono _ _)
  |(with_reducible exact bursarref03_placed.mono _ _ _ _)
  |(with_reducible exact LeO.refl _)
  |(with_reducible exact LeO.none _)
  |(with_reducible refine LeO.ite ?_ ?_)
  |(with_reducible refine LeO.bind ?_ (fun _ => ?_))
  |exact ih0 _ _ _
  |exact ih1 _ _ _ _
  |exact ih2 _ _ _ _
  |exact bursarref03_Of.mono _ _ _
  |exact bursarref03_Valid.mono _ _
  |exact bursarref03_placed.mono _ _ _ _
  |exact LeO.none _
  |refine LeO.ite ?_ ?_
  |refine LeO.bind ?_ (fun _ => ?_)
  ·intro y0 y1 y2 y3
   unfold bursarref03_Minus.l0
   repeat' first
  |(with_reducible exact ih0 _ _ _)
  |(with_reducible exact ih1 _ _ _ _)
  |(with_reducible exact ih2 _ _ _ _)
  |(with_reducible exact bursarref03_Of.mono _ _ _)
  |(with_reducible exact bursarref03_Valid.mono _ _)
  |(with_reducible exact bursarref03_placed.mono _ _ _ _)
  |(with_reducible exact LeO.refl _)
  |(with_reducible exact LeO.none _)
  |(with_reducible refine LeO.ite ?_ ?_)
  |(with_reducible refine LeO.bind ?_ (fun _ => ?_))
  |exact ih0 _ _ _
  |exact ih1 _ _ _ _
  |exact ih2 _ _ _ _
  |exact bursarref03_Of.mono _ _ _
  |exact bursarref03_Valid.mono _ _
  |exact bursarref03_placed.mono _ _ _ _
  |exact LeO.none _
  |refine LeO.ite ?_ ?_
  |refine LeO.bind ?_ (fun _ => ?_)
  ·intro y0 y1 y2 y3
   unfold bursarref03_Minus.l1
   repeat' first
  |(with_reducible exact ih0 _ _ _)
  |(with_reducible exact ih1 _ _ _ _)
  |(with_reducible exact ih2 _ _ _ _)
  |(with_reducible exact bursarref03_Of.mono _ _ _)
  |(with_reducible exact bursarref03_Valid.mono _ _)
  |(with_reducible exact bursarref03_placed.mono _ _ _ _)
  |(with_reducible exact LeO.refl _)
  |(with_reducible exact LeO.none _)
  |(with_reducible refine LeO.ite ?_ ?_)
  |(with_reducible refine LeO.bind ?_ (fun _ => ?_))
  |exact ih0 _ _ _
  |exact ih1 _ _ _ _
  |exact ih2 _ _ _ _
  |exact bursarref03_Of.mono _ _ _
  |exact bursarref03_Valid.mono _ _
  |exact bursarref03_placed.mono _ _ _ _
  |exact LeO.none _
  |refine LeO.ite ?_ ?_
  |refine LeO.bind ?_ (fun _ => ?_)
theorem bursarref03_Minus.mono : ∀ a0 a1 k, LeO (bursarref03_Minus.f k a0 a1) (bursarref03_Minus.f (k + 1) a0 a1) := by
 intro a0 a1 k
 obtain ⟨ih0,ih1,ih2⟩:=bursarref03_Minus.mono_l k
 unfold bursarref03_Minus.f
 repeat' first
  |(with_reducible exact ih0 _ _ _)
  |(with_reducible exact ih1 _ _ _ _)
  |(with_reducible exact ih2 _ _ _ _)
  |(with_reducible exact bursarref03_Of.mono _ _ _)
  |(with_reducible exact bursarref03_Valid.mono _ _)
  |(with_reducible exact bursarref03_placed.mono _ _ _ _)
  |(with_reducible exact LeO.refl _)
  |(with_reducible exact LeO.none _)
  |(with_reducible refine LeO.ite ?_ ?_)
  |(with_reducible refine LeO.bind ?_ (fun _ => ?_))
  |exact ih0 _ _ _
  |exact ih1 _ _ _ _
  |exact ih2 _ _ _ _
  |exact bursarref03_Of.mono _ _ _
  |exact bursarref03_Valid.mono _ _
  |exact bursarref03_placed.mono _ _ _ _
  |exact LeO.none _
  |refine LeO.ite ?_ ?_
  |refine LeO.bind ?_ (fun _ => ?_)
end Go.Proofs.YtejgbdclhlolkaaGreatDoor.Q
namespace Go.Proofs.YtejgbdclhlolkaaGreatDoor.Q
open Go.RowKit Go.Proofs.YtejgbdclhlolkaaGreatDoorW.PrintWords Go.Proofs.YtejgbdclhlolkaaGreatDoorW.PrintLast Go.Proofs.YtejgbdclhlolkaaGreatDoorW.PrintMore
attribute [local go_sem] max2_int min2_int max_two min_two max_three min_three max_four min_four   -- for this text's walks alone
set_option linter.unusedVariables false
set_option linter.unusedSimpArgs false
mutual
def bursarref03_Within.j0 : Nat → List (S57) → List (S57) → Bool → Option (ByteArray × Int)
|0,_,_,_ => none
|k + 1,x0,x1,x16 => if x16 = true then (some ((⟨#[]⟩ : ByteArray),31)) else (bursarref03_Within.l0 k x0 x1 0)
def bursarref03_Within.l0 : Nat → List (S57) → List (S57) → Int → Option (ByteArray × Int)
|0,_,_,_ => none
|k + 1,x0,x1,x6 => if x6 < (x1.length : Int) then (if 0 ≤ x6 then ((bursarref03_Of.f k x0 ((rd_T57 x1 x6).f0)).bind fun bt792 => (if ((rd_T57 x1 x6).f1) < bt792.1 then (some ((rd_T57 x1 x6).f0,0)) else (bursarref03_Within.l0 k x0 x1 (wrap64 (x6 + 1))))) else (none)) else (some ((⟨#[]⟩ : ByteArray),0))
end
def bursarref03_Within.f (k : Nat) (l0 : List (S57)) (l1 : List (S57)) : Option (ByteArray × Int) := (bursarref03_Valid.f k l0).bind fun t789 => (if t789 = 0 then ((bursarref03_Valid.f k l1).bind fun t790 => (bursarref03_Within.j0 k l0 l1 (t790 != 0))) else (bursarref03_Within.j0 k l0 l1 true))
theorem bursarref03_Within.mono_l : ∀ k, (∀ y0 y1 y2, LeO (bursarref03_Within.j0 k y0 y1 y2) (bursarref03_Within.j0 (k + 1) y0 y1 y2)) ∧ (∀ y0 y1 y2, LeO (bursarref03_Within.l0 k y0 y1 y2) (bursarref03_Within.l0 (k + 1) y0 y1 y2))
|0 => ⟨fun _ _ _ r h => by simp [bursarref03_Within.j0] at h,fun _ _ _ r h => by simp [bursarref03_Within.l0] at h⟩
|k + 1 => by
  obtain ⟨ih0,ih1⟩:=bursarref03_Within.mono_l k
  refine ⟨?_,?_⟩
  ·intro y0 y1 y2
   unfold bursarref03_Within.j0
   repeat' first
  |(with_reducible exact ih0 _ _ _)
  |(with_reducible exact ih1 _ _ _)
  |(with_reducible exact bursarref03_Of.mono _ _ _)
  |(with_reducible exact bursarref03_Valid.mono _ _)
  |(with_reducible exact LeO.refl _)
  |(with_reducible exact LeO.none _)
  |(with_reducible refine LeO.ite ?_ ?_)
  |(with_reducible refine LeO.bind ?_ (fun _ => ?_))
  |exact ih0 _ _ _
  |exact ih1 _ _ _
  |exact bursarref03_Of.mono _ _ _
  |exact bursarref03_Valid.mono _ _
  |exact LeO.none _
  |refine LeO.ite ?_ ?_
  |refine LeO.bind ?_ (fun _ => ?_)
  ·intro y0 y1 y2
   unfold bursarref03_Within.l0
   repeat' first
  |(with_reducible exact ih0 _ _ _)
  |(with_reducible exact ih1 _ _ _)
  |(with_reducible exact bursarref03_Of.mono _ _ _)
  |(with_reducible exact bursarref03_Valid.mono _ _)
  |(with_reducible exact LeO.refl _)
  |(with_reducible exact LeO.none _)
  |(with_reducible refine LeO.ite ?_ ?_)
  |(with_reducible refine LeO.bind ?_ (fun _ => ?_))
  |exact ih0 _ _ _
  |exact ih1 _ _ _
  |exact bursarref03_Of.mono _ _ _
  |exact bursarref03_Valid.mono _ _
  |exact LeO.none _
  |refine LeO.ite ?_ ?_
  |refine LeO.bind ?_ (fun _ => ?_)
theorem bursarref03_Within.mono : ∀ a0 a1 k, LeO (bursarref03_Within.f k a0 a1) (bursarref03_Within.f (k + 1) a0 a1) := by
 intro a0 a1 k
 obtain ⟨ih0,ih1⟩:=bursarref03_Within.mono_l k
 unfold bursarref03_Within.f
 repeat' first
  |(with_reducible exact ih0 _ _ _)
  |(with_reducible exact ih1 _ _ _)
  |(with_reducible exact bursarref03_Of.mono _ _ _)
  |(with_reducible exact bursarref03_Valid.mono _ _)
  |(with_reducible exact LeO.refl _)
  |(with_reducible exact LeO.none _)
  |(with_reducible refine LeO.ite ?_ ?_)
  |(with_reducible refine LeO.bind ?_ (fun _ => ?_))
  |exact ih0 _ _ _
  |exact ih1 _ _ _
  |exact bursarref03_Of.mono _ _ _
  |exact bursarref03_Valid.mono _ _
  |exact LeO.none _
  |refine LeO.ite ?_ ?_
  |refine LeO.bind ?_ (fun _ => ?_)
end Go.Proofs.YtejgbdclhlolkaaGreatDoor.Q
namespace Go.Proofs.YtejgbdclhlolkaaGreatDoor.Q
open Go.RowKit Go.Proofs.YtejgbdclhlolkaaGreatDoorW.PrintWords Go.Proofs.YtejgbdclhlolkaaGreatDoorW.PrintLast Go.Proofs.YtejgbdclhlolkaaGreatDoorW.PrintMore
attribute [local go_sem] max2_int min2_int max_two min_two max_three min_three max_four min_four   -- for this text's walks alone
set_option linter.unusedVariables false
set_option linter.unusedSimpArgs false
mutual
def bursarlaw03_QuantLists.j0 : Nat → List (S57) → List (S57) → List (S57) → List (S57) → Bool → Option (Bool)
|0,_,_,_,_,_ => none
|k + 1,x0,x1,x5,x6,x33 => if x33 = true then (none) else (if 0 ≤ (x0.length : Int) then (if (x0.length : Int) ≤ (x5.length : Int) then ((quant_Normal.f k (x5.take ((x0.length : Int) : Int).toNat)).bind fun bt814 => ((bursarref03_Normal.f k x0).bind fun bt818 => (if bt814.2 = bt818.2 then ((bursarlaw03_same.f k bt814.1 bt818.1).bind fun t822 => (if t822 = true then ((bursarlaw03_untouched.f k x5 x0).bind fun t823 => (bursarlaw03_QuantLists.j1 k x0 x1 x5 x6 (!t823))) else (bursarlaw03_QuantLists.j1 k x0 x1 x5 x6 true))) else (bursarlaw03_QuantLists.j1 k x0 x1 x5 x6 true)))) else (none)) else (none))
def bursarlaw03_QuantLists.j1 : Nat → List (S57) → List (S57) → List (S57) → List (S57) → Bool → Option (Bool)
|0,_,_,_,_,_ => none
|k + 1,x0,x1,x5,x6,x61 => if x61 = true then (none) else (if 0 ≤ (x0.length : Int) then (if (x0.length : Int) ≤ (x5.length : Int) then (if 0 ≤ (x1.length : Int) then (if (x1.length : Int) ≤ (x6.length : Int) then ((quant_Plus.f k (x5.take ((x0.length : Int) : Int).toNat) (x6.take ((x1.length : Int) : Int).toNat)).bind fun bt832 => ((bursarref03_Plus.f k x0 x1).bind fun bt836 => (if bt832.2 = bt836.2 then ((bursarlaw03_same.f k bt832.1 bt836.1).bind fun t840 => (if t840 = true then ((bursarlaw03_untouched.f k x5 x0).bind fun t841 => (if t841 = true then ((bursarlaw03_untouched.f k x6 x1).bind fun t842 => (bursarlaw03_QuantLists.j2 k x0 x1 x5 x6 (!t842))) else (bursarlaw03_QuantLists.j2 k x0 x1 x5 x6 true))) else (bursarlaw03_QuantLists.j2 k x0 x1 x5 x6 true))) else (bursarlaw03_QuantLists.j2 k x0 x1 x5 x6 true)))) else (none)) else (none)) else (none)) else (none))
def bursarlaw03_QuantLists.j2 : Nat → List (S57) → List (S57) → List (S57) → List (S57) → Bool → Option (Bool)
|0,_,_,_,_,_ => none
|k + 1,x0,x1,x5,x6,x100 => if x100 = true then (none) else (if 0 ≤ (x0.length : Int) then (if (x0.length : Int) ≤ (x5.length : Int) then (if 0 ≤ (x1.length : Int) then (if (x1.length : Int) ≤ (x6.length : Int) then ((quant_Minus.f k (x5.take ((x0.length : Int) : Int).toNat) (x6.take ((x1.length : Int) : Int).toNat)).bind fun bt851 => ((bursarref03_Minus.f k x0 x1).bind fun bt855 => (if bt851.2 = bt855.2 then ((bursarlaw03_same.f k bt851.1 bt855.1).bind fun t859 => (if t859 = true then ((bursarlaw03_untouched.f k x5 x0).bind fun t860 => (if t860 = true then ((bursarlaw03_untouched.f k x6 x1).bind fun t861 => (bursarlaw03_QuantLists.j3 k x0 x1 x5 x6 (!t861))) else (bursarlaw03_QuantLists.j3 k x0 x1 x5 x6 true))) else (bursarlaw03_QuantLists.j3 k x0 x1 x5 x6 true))) else (bursarlaw03_QuantLists.j3 k x0 x1 x5 x6 true)))) else (none)) else (none)) else (none)) else (none))
def bursarlaw03_QuantLists.j3 : Nat → List (S57) → List (S57) → List (S57) → List (S57) → Bool → Option (Bool)
|0,_,_,_,_,_ => none
|k + 1,x0,x1,x5,x6,x139 => if x139 = true then (none) else (if 0 ≤ (x0.length : Int) then (if (x0.length : Int) ≤ (x5.length : Int) then (if 0 ≤ (x1.length : Int) then (if (x1.length : Int) ≤ (x6.length : Int) then ((quant_Within.f k (x5.take ((x0.length : Int) : Int).toNat) (x6.take ((x1.length : Int) : Int).toNat)).bind fun bt870 => ((bursarref03_Within.f k x0 x1).bind fun bt872 => (if bt870.2 = bt872.2 then (if bt870.1.toList = bt872.1.toList then ((bursarlaw03_untouched.f k x5 x0).bind fun t874 => (if t874 = true then ((bursarlaw03_untouched.f k x6 x1).bind fun t875 => (some t875)) else (none))) else (none)) else (none)))) else (none)) else (none)) else (none)) else (none))
end
def bursarlaw03_QuantLists.f (k : Nat) (l0 : List (S57)) (l1 : List (S57)) : Option (Bool) := (bursarlaw03_known.f k).bind fun t796 => (if t796 = true then ((bursarlaw03_behind.f l0).bind fun t797 => ((bursarlaw03_behind.f l1).bind fun t800 => (if 0 ≤ (l0.length : Int) then (if (l0.length : Int) ≤ (t797.length : Int) then ((quant_Valid.f k (t797.take ((l0.length : Int) : Int).toNat)).bind fun t807 => ((bursarref03_Valid.f k l0).bind fun t808 => (if t807 = t808 then ((bursarlaw03_untouched.f k t797 l0).bind fun t809 => (bursarlaw03_QuantLists.j0 k l0 l1 t797 t800 (!t809))) else (bursarlaw03_QuantLists.j0 k l0 l1 t797 t800 true)))) else (none)) else (none)))) else (none))
theorem bursarlaw03_QuantLists.mono_l : ∀ k, (∀ y0 y1 y2 y3 y4, LeO (bursarlaw03_QuantLists.j0 k y0 y1 y2 y3 y4) (bursarlaw03_QuantLists.j0 (k + 1) y0 y1 y2 y3 y4)) ∧ (∀ y0 y1 y2 y3 y4, LeO (bursarlaw03_QuantLists.j1 k y0 y1 y2 y3 y4) (bursarlaw03_QuantLists.j1 (k + 1) y0 y1 y2 y3 y4)) ∧ (∀ y0 y1 y2 y3 y4, LeO (bursarlaw03_QuantLists.j2 k y0 y1 y2 y3 y4) (bursarlaw03_QuantLists.j2 (k + 1) y0 y1 y2 y3 y4)) ∧ (∀ y0 y1 y2 y3 y4, LeO (bursarlaw03_QuantLists.j3 k y0 y1 y2 y3 y4) (bursarlaw03_QuantLists.j3 (k + 1) y0 y1 y2 y3 y4))
|0 => ⟨fun _ _ _ _ _ r h => by simp [bursarlaw03_QuantLists.j0] at h,fun _ _ _ _ _ r h => by simp [bursarlaw03_QuantLists.j1] at h,fun _ _ _ _ _ r h => by simp [bursarlaw03_QuantLists.j2] at h,fun _ _ _ _ _ r h => by simp [bursarlaw03_QuantLists.j3] at h⟩
|k + 1 => by
  obtain ⟨ih0,ih1,ih2,ih3⟩:=bursarlaw03_QuantLists.mono_l k
  refine ⟨?_,?_,?_,?_⟩
  ·intro y0 y1 y2 y3 y4
   unfold bursarlaw03_QuantLists.j0
   repeat' first
  |(with_reducible exact ih0 _ _ _ _ _)
  |(with_reducible exact ih1 _ _ _ _ _)
  |(with_reducible exact ih2 _ _ _ _ _)
  |(with_reducible exact ih3 _ _ _ _ _)
  |(with_reducible exact bursarlaw03_known.mono _)
  |(with_reducible exact bursarlaw03_same.mono _ _ _)
  |(with_reducible exact bursarlaw03_untouched.mono _ _ _)
  |(with_reducible exact bursarref03_Minus.mono _ _ _)
  |(with_reducible exact bursarref03_Normal.mono _ _)
  |(with_reducible exact bursarref03_Plus.mono _ _ _)
  |(with_reducible exact bursarref03_Valid.mono _ _)
  |(with_reducible exact bursarref03_Within.mono _ _ _)
  |(with_reducible exact quant_Minus.mono _ _ _)
  |(with_reducible exact quant_Normal.mono _ _)
  |(with_reducible exact quant_Plus.mono _ _ _)
  |(with_reducible exact quant_Valid.mono _ _)
  |(with_reducible exact quant_Within.mono _ _ _)
  |(with_reducible exact LeO.refl _)
  |(with_reducible exact LeO.none _)
  |(with_reducible refine LeO.ite ?_ ?_)
  |(with_reducible refine LeO.bind ?_ (fun _ => ?_))
  |exact ih0 _ _ _ _ _
  |exact ih1 _ _ _ _ _
  |exact ih2 _ _ _ _ _
  |exact ih3 _ _ _ _ _
  |exact bursarlaw03_known.mono _
  |exact bursarlaw03_same.mono _ _ _
  |exact bursarlaw03_untouched.mono _ _ _
  |exact bursarref03_Minus.mono _ _ _
  |exact bursarref03_Normal.mono _ _
  |exact bursarref03_Plus.mono _ _ _
  |exact bursarref03_Valid.mono _ _
  |exact bursarref03_Within.mono _ _ _
  |exact quant_Minus.mono _ _ _
  |exact quant_Normal.mono _ _
  |exact quant_Plus.mono _ _ _
  |exact quant_Valid.mono _ _
  |exact quant_Within.mono _ _ _
  |exact LeO.none _
  |refine LeO.ite ?_ ?_
  |refine LeO.bind ?_ (fun _ => ?_)
  ·intro y0 y1 y2 y3 y4
   unfold bursarlaw03_QuantLists.j1
   repeat' first
  |(with_reducible exact ih0 _ _ _ _ _)
  |(with_reducible exact ih1 _ _ _ _ _)
  |(with_reducible exact ih2 _ _ _ _ _)
  |(with_reducible exact ih3 _ _ _ _ _)
  |(with_reducible exact bursarlaw03_known.mono _)
  |(with_reducible exact bursarlaw03_same.mono _ _ _)
  |(with_reducible exact bursarlaw03_untouched.mono _ _ _)
  |(with_reducible exact bursarref03_Minus.mono _ _ _)
  |(with_reducible exact bursarref03_Normal.mono _ _)
  |(with_reducible exact bursarref03_Plus.mono _ _ _)
  |(with_reducible exact bursarref03_Valid.mono _ _)
  |(with_reducible exact bursarref03_Within.mono _ _ _)
  |(with_reducible exact quant_Minus.mono _ _ _)
  |(with_reducible exact quant_Normal.mono _ _)
  |(with_reducible exact quant_Plus.mono _ _ _)
  |(with_reducible exact quant_Valid.mono _ _)
  |(with_reducible exact quant_Within.mono _ _ _)
  |(with_reducible exact LeO.refl _)
  |(with_reducible exact LeO.none _)
  |(with_reducible refine LeO.ite ?_ ?_)
  |(with_reducible refine LeO.bind ?_ (fun _ => ?_))
  |exact ih0 _ _ _ _ _
  |exact ih1 _ _ _ _ _
  |exact ih2 _ _ _ _ _
  |exact ih3 _ _ _ _ _
  |exact bursarlaw03_known.mono _
  |exact bursarlaw03_same.mono _ _ _
  |exact bursarlaw03_untouched.mono _ _ _
  |exact bursarref03_Minus.mono _ _ _
  |exact bursarref03_Normal.mono _ _
  |exact bursarref03_Plus.mono _ _ _
  |exact bursarref03_Valid.mono _ _
  |exact bursarref03_Within.mono _ _ _
  |exact quant_Minus.mono _ _ _
  |exact quant_Normal.mono _ _
  |exact quant_Plus.mono _ _ _
  |exact quant_Valid.mono _ _
  |exact quant_Within.mono _ _ _
  |exact LeO.none _
  |refine LeO.ite ?_ ?_
  |refine LeO.bind ?_ (fun _ => ?_)
  ·intro y0 y1 y2 y3 y4
   unfold bursarlaw03_QuantLists.j2
   repeat' first
  |(with_reducible exact ih0 _ _ _ _ _)
  |(with_reducible exact ih1 _ _ _ _ _)
  |(with_reducible exact ih2 _ _ _ _ _)
  |(with_reducible exact ih3 _ _ _ _ _)
  |(with_reducible exact bursarlaw03_known.mono _)
  |(with_reducible exact bursarlaw03_same.mono _ _ _)
  |(with_reducible exact bursarlaw03_untouched.mono _ _ _)
  |(with_reducible exact bursarref03_Minus.mono _ _ _)
  |(with_reducible exact bursarref03_Normal.mono _ _)
  |(with_reducible exact bursarref03_Plus.mono _ _ _)
  |(with_reducible exact bursarref03_Valid.mono _ _)
  |(with_reducible exact bursarref03_Within.mono _ _ _)
  |(with_reducible exact quant_Minus.mono _ _ _)
  |(with_reducible exact quant_Normal.mono _ _)
  |(with_reducible exact quant_Plus.mono _ _ _)
  |(with_reducible exact quant_Valid.mono _ _)
  |(with_reducible exact quant_Within.mono _ _ _)
  |(with_reducible exact LeO.refl _)
  |(with_reducible exact LeO.none _)
  |(with_reducible refine LeO.ite ?_ ?_)
  |(with_reducible refine LeO.bind ?_ (fun _ => ?_))
  |exact ih0 _ _ _ _ _
  |exact ih1 _ _ _ _ _
  |exact ih2 _ _ _ _ _
  |exact ih3 _ _ _ _ _
  |exact bursarlaw03_known.mono _
  |exact bursarlaw03_same.mono _ _ _
  |exact bursarlaw03_untouched.mono _ _ _
  |exact bursarref03_Minus.mono _ _ _
  |exact bursarref03_Normal.mono _ _
  |exact bursarref03_Plus.mono _ _ _
  |exact bursarref03_Valid.mono _ _
  |exact bursarref03_Within.mono _ _ _
  |exact quant_Minus.mono _ _ _
  |exact quant_Normal.mono _ _
  |exact quant_Plus.mono _ _ _
  |exact quant_Valid.mono _ _
  |exact quant_Within.mono _ _ _
  |exact LeO.none _
  |refine LeO.ite ?_ ?_
  |refine LeO.bind ?_ (fun _ => ?_)
  ·intro y0 y1 y2 y3 y4
   unfold bursarlaw03_QuantLists.j3
   repeat' first
  |(with_reducible exact ih0 _ _ _ _ _)
  |(with_reducible exact ih1 _ _ _ _ _)
  |(with_reducible exact ih2 _ _ _ _ _)
  |(with_reducible exact ih3 _ _ _ _ _)
  |(with_reducible exact bursarlaw03_known.mono _)
  |(with_reducible exact bursarlaw03_same.mono _ _ _)
  |(with_reducible exact bursarlaw03_untouched.mono _ _ _)
  |(with_reducible exact bursarref03_Minus.mono _ _ _)
  |(with_reducible exact bursarref03_Normal.mono _ _)
  |(with_reducible exact bursarref03_Plus.mono _ _ _)
  |(with_reducible exact bursarref03_Valid.mono _ _)
  |(with_reducible exact bursarref03_Within.mono _ _ _)
  |(with_reducible exact quant_Minus.mono _ _ _)
  |(with_reducible exact quant_Normal.mono _ _)
  |(with_reducible exact quant_Plus.mono _ _ _)
  |(with_reducible exact quant_Valid.mono _ _)
  |(with_reducible exact quant_Within.mono _ _ _)
  |(with_reducible exact LeO.refl _)
  |(with_reducible exact LeO.none _)
  |(with_reducible refine LeO.ite ?_ ?_)
  |(with_reducible refine LeO.bind ?_ (fun _ => ?_))
  |exact ih0 _ _ _ _ _
  |exact ih1 _ _ _ _ _
  |exact ih2 _ _ _ _ _
  |exact ih3 _ _ _ _ _
  |exact bursarlaw03_known.mono _
  |exact bursarlaw03_same.mono _ _ _
  |exact bursarlaw03_untouched.mono _ _ _
  |exact bursarref03_Minus.mono _ _ _
  |exact bursarref03_Normal.mono _ _
  |exact bursarref03_Plus.mono _ _ _
  |exact bursarref03_Valid.mono _ _
  |exact bursarref03_Within.mono _ _ _
  |exact quant_Minus.mono _ _ _
  |exact quant_Normal.mono _ _
  |exact quant_Plus.mono _ _ _
  |exact quant_Valid.mono _ _
  |exact quant_Within.mono _ _ _
  |exact LeO.none _
  |refine LeO.ite ?_ ?_
  |refine LeO.bind ?_ (fun _ => ?_)
theorem bursarlaw03_QuantLists.mono : ∀ a0 a1 k, LeO (bursarlaw03_QuantLists.f k a0 a1) (bursarlaw03_QuantLists.f (k + 1) a0 a1) := by
 intro a0 a1 k
 obtain ⟨ih0,ih1,ih2,ih3⟩:=bursarlaw03_QuantLists.mono_l k
 unfold bursarlaw03_QuantLists.f
 repeat' first
  |(with_reducible exact ih0 _ _ _ _ _)
  |(with_reducible exact ih1 _ _ _ _ _)
  |(with_reducible exact ih2 _ _ _ _ _)
  |(with_reducible exact ih3 _ _ _ _ _)
  |(with_reducible exact bursarlaw03_known.mono _)
  |(with_reducible exact bursarlaw03_same.mono _ _ _)
  |(with_reducible exact bursarlaw03_untouched.mono _ _ _)
  |(with_reducible exact bursarref03_Minus.mono _ _ _)
  |(with_reducible exact bursarref03_Normal.mono _ _)
  |(with_reducible exact bursarref03_Plus.mono _ _ _)
  |(with_reducible exact bursarref03_Valid.mono _ _)
  |(with_reducible exact bursarref03_Within.mono _ _ _)
  |(with_reducible exact quant_Minus.mono _ _ _)
  |(with_reducible exact quant_Normal.mono _ _)
  |(with_reducible exact quant_Plus.mono _ _ _)
  |(with_reducible exact quant_Valid.mono _ _)
  |(with_reducible exact quant_Within.mono _ _ _)
  |(with_reducible exact LeO.refl _)
  |(with_reducible exact LeO.none _)
  |(with_reducible refine LeO.ite ?_ ?_)
  |(with_reducible refine LeO.bind ?_ (fun _ => ?_))
  |exact ih0 _ _ _ _ _
  |exact ih1 _ _ _ _ _
  |exact ih2 _ _ _ _ _
  |exact ih3 _ _ _ _ _
  |exact bursarlaw03_known.mono _
  |exact bursarlaw03_same.mono _ _ _
  |exact bursarlaw03_untouched.mono _ _ _
  |exact bursarref03_Minus.mono _ _ _
  |exact bursarref03_Normal.mono _ _
  |exact bursarref03_Plus.mono _ _ _
  |exact bursarref03_Valid.mono _ _
  |exact bursarref03_Within.mono _ _ _
  |exact quant_Minus.mono _ _ _
  |exact quant_Normal.mono _ _
  |exact quant_Plus.mono _ _ _
  |exact quant_Valid.mono _ _
  |exact quant_Within.mono _ _ _
  |exact LeO.none _
  |refine LeO.ite ?_ ?_
  |refine LeO.bind ?_ (fun _ => ?_)
end Go.Proofs.YtejgbdclhlolkaaGreatDoor.Q
namespace Go.Proofs.YtejgbdclhlolkaaGreatDoor.Q
open Go.RowKit Go.Proofs.YtejgbdclhlolkaaGreatDoorW.PrintWords Go.Proofs.YtejgbdclhlolkaaGreatDoorW.PrintLast
set_option linter.unusedVariables false
set_option linter.unusedSimpArgs false
set_option maxRecDepth 100000 in
theorem known_at : bursarlaw03_known.f 60 = some true := by decide +kernel
theorem known_ev : Ev (fun k => bursarlaw03_known.f k) true := Ev.of bursarlaw03_known.mono known_at
end Go.Proofs.YtejgbdclhlolkaaGreatDoor.Q
namespace Go.Proofs.YtejgbdclhlolkaaGreatDoor.Q
open Go.RowKit Go.Proofs.YtejgbdclhlolkaaGreatDoorW.PrintWords Go.Proofs.YtejgbdclhlolkaaGreatDoorW.PrintLast
set_option linter.unusedVariables false
set_option linter.unusedSimpArgs false
theorem wl (i : Nat) (h : i < 9223372036854775807) : wrap64 ((i : Int) + 1) = ((i + 1 : Nat) : Int) := by unfold wrap64; omega
theorem rd_get57 (l : List S57) (i : Nat) (h : i < l.length) : rd_T57 l (i : Int) = l[i] := by
  simp [rd_T57, List.getD_eq_getElem?_getD, h]
theorem same_l0 (l : List S57) (hl : l.length ≤ 9223372036854775806) : ∀ (m i : Nat), i + m = l.length → Ev (fun k => bursarlaw03_same.l0 k l l (i : Int)) true := by
  intro m
  induction m with
  | zero =>
    intro i hi
    refine Ev.step (f := fun _ => some true) (fun k => ?_) (Ev.now _)
    simp only [bursarlaw03_same.l0]
    rw [if_neg (by omega)]
  | succ m ih =>
    intro i hi
    refine Ev.step (fun k => ?_) (ih (i + 1) (by omega))
    simp only [bursarlaw03_same.l0]
    rw [if_pos (by omega), if_pos (by omega), if_pos (by omega), beq_self_eq_true, beq_self_eq_true, if_neg (by decide), wl i (by omega)]
theorem same_refl (l : List S57) (hl : l.length ≤ 9223372036854775806) : Ev (fun k => bursarlaw03_same.f k l l) true :=
  Ev.congr (fun k => if_pos rfl) (same_l0 l hl l.length 0 (by omega))
theorem untouched_ev (l : List S57) (hl : l.length ≤ 4000000000) : Ev (fun k => bursarlaw03_untouched.f k (l ++ [markS]) l) true := by
  have e : rd_T57 (l ++ [markS]) (l.length : Int) = markS := by
    rw [rd_get57 _ l.length (by simp)]
    simp
  refine Ev.congr (f := fun k => (bursarlaw03_same.f k l l).bind fun t => if t = true then some ((markS).f0.toList == (⟨#[109, 97, 114, 107]⟩ : ByteArray).toList && (markS.f1 == 77)) else some false) (fun k => ?_) (Ev.bind (same_refl l (by omega)) (Ev.congr (f := fun _ => some true) (fun k => by rw [if_pos rfl, show markS.f0 = (⟨#[109, 97, 114, 107]⟩ : ByteArray) from rfl, beq_self_eq_true]; rfl) (Ev.now _)))
  unfold bursarlaw03_untouched.f
  rw [if_neg (by omega), if_pos (by simp), e, List.take_left' rfl]
end Go.Proofs.YtejgbdclhlolkaaGreatDoor.Q
namespace Go.Proofs.YtejgbdclhlolkaaGreatDoor.Q
open Go.RowKit Go.Proofs.YtejgbdclhlolkaaGreatDoorW.PrintWords Go.Proofs.YtejgbdclhlolkaaGreatDoorW.PrintLast
set_option linter.unusedVariables false
set_option linter.unusedSimpArgs false
def edgeB (c : Int) : Bool := (decide (97 ≤ c) && decide (c ≤ 122)) || (decide (48 ≤ c) && decide (c ≤ 57))
theorem edge_is (c : Int) : quant_edge.f c = some (edgeB c) := by
  unfold quant_edge.f edgeB
  by_cases h1 : c ≥ 97
  · rw [if_pos h1, decide_eq_true (show 97 ≤ c from h1)]
    by_cases h2 : c ≤ 122
    · rw [if_pos h2, decide_eq_true h2]; rfl
    · rw [if_neg h2, if_pos (show c ≥ 48 by omega), decide_eq_false h2, decide_eq_false (show ¬ c ≤ 57 by omega)]; simp
  · rw [if_neg h1, decide_eq_false (show ¬ 97 ≤ c from h1)]
    by_cases h2 : c ≥ 48
    · rw [if_pos h2, decide_eq_true (show 48 ≤ c from h2)]; simp
    · rw [if_neg h2, decide_eq_false (show ¬ 48 ≤ c from h2)]; simp
def innerB (p : ByteArray) (i : Nat) : Bool := edgeB (bt p (i : Int)) || decide (bt p (i : Int) = 45)
def allFrom (p : ByteArray) : Nat → Nat → Bool
  | 0, _ => true
  | m + 1, i => innerB p i && allFrom p m (i + 1)
def pieceB (p : ByteArray) : Bool := !(p.toList == ([] : List UInt8)) && edgeB (bt p 0) && edgeB (bt p ((p.size : Int) - 1)) && allFrom p p.size 0
def piecesOf (s : ByteArray) : List ByteArray := Lib.splitB (⟨#[46]⟩ : ByteArray) 0 (Lib.countB s (⟨#[46]⟩ : ByteArray)) s
def resP (s : ByteArray) : Bool := decide (s.size ≤ 48) && (piecesOf s).all pieceB
theorem rd_ba (l : List ByteArray) (i : Nat) (h : i < l.length) : rdOf ByteArray.empty l (i : Int) = l[i] := by simp [rdOf, List.getD_eq_getElem?_getD, h]
theorem empty_iffR (p : ByteArray) : p.toList = ([] : List UInt8) ↔ p.size = 0 := by rw [ByteArray.toList_eq, Lib.size_eq, List.length_eq_zero_iff]
theorem res_l1 (ps : List ByteArray) (len i : Int) (p : ByteArray) (hp : p.size < 4611686018427387904) (r : Bool) (hK : Ev (fun k => quant_resource.l0 k ps len (wrap64 (i + 1))) r) :
    ∀ (m j : Nat), j + m = p.size → Ev (fun k => quant_resource.l1 k p ps len i (p.size : Int) (j : Int)) (allFrom p m j && r) := by
  intro m
  induction m with
  | zero =>
    intro j hj
    refine Ev.step (fun k => ?_) hK
    simp only [quant_resource.l1]
    rw [if_neg (by omega)]
  | succ m ih =>
    intro j hj
    have key := ih (j + 1) (by omega)
    have hw : wrap64 ((j : Int) + 1) = ((j + 1 : Nat) : Int) := wl j (by omega)
    rw [allFrom]
    cases hi : innerB p j with
    | true =>
      rw [Bool.true_and]
      refine Ev.step (fun k => ?_) key
      simp only [quant_resource.l1]
      rw [if_pos (by omega), if_pos (by omega), if_pos (by omega), edge_is, Option.bind_some, hw]
      unfold innerB at hi
      cases he : edgeB (bt p (j : Int)) with
      | true => rw [if_pos rfl]
      | false =>
        rw [he, Bool.false_or, decide_eq_true_eq] at hi
        rw [if_neg Bool.false_ne_true, if_pos hi]
    | false =>
      rw [Bool.false_and, Bool.false_and]
      refine Ev.step (f := fun _ => some false) (fun k => ?_) (Ev.now _)
      unfold innerB at hi
      rw [Bool.or_eq_false_iff, decide_eq_false_iff_not] at hi
      simp only [quant_resource.l1]
      rw [if_pos (by omega), if_pos (by omega), if_pos (by omega), edge_is, Option.bind_some, hi.1, if_neg Bool.false_ne_true, if_neg hi.2]
theorem res_l0 (ps : List ByteArray) (hl : ps.length < 4611686018427387904) (hs : ∀ p ∈ ps, p.size < 4611686018427387904) :
    ∀ (m i : Nat), i + m = ps.length → Ev (fun k => quant_resource.l0 k ps (ps.length : Int) (i : Int)) ((ps.drop i).all pieceB) := by
  intro m
  induction m with
  | zero =>
    intro i hi
    rw [List.drop_eq_nil_of_le (by omega)]
    refine Ev.step (f := fun _ => some true) (fun k => ?_) (Ev.now _)
    simp only [quant_resource.l0]
    rw [if_neg (by omega)]
  | succ m ih =>
    intro i hi
    have hil : i < ps.length := by omega
    have key := ih (i + 1) (by omega)
    have hw : wrap64 ((i : Int) + 1) = ((i + 1 : Nat) : Int) := wl i (by omega)
    rw [← hw] at key
    have hps := hs ps[i] (List.getElem_mem hil)
    have l1 := res_l1 ps (ps.length : Int) (i : Int) ps[i] hps _ key (ps[i]).size 0 (by omega)
    rw [List.drop_eq_getElem_cons hil, List.all_cons]
    clear hw key
    have hnext : ∀ b : Bool, Ev (fun k => quant_resource.j1 k ps[i] ps (ps.length : Int) (i : Int) b) (if b = true then false else allFrom ps[i] (ps[i]).size 0 && (ps.drop (i + 1)).all pieceB) := by
      intro b
      cases b with
      | true => exact Ev.step (f := fun _ => some false) (fun k => by simp only [quant_resource.j1]; rw [if_pos trivial]) (Ev.now _)
      | false => exact Ev.step (fun k => by simp only [quant_resource.j1]; rw [if_neg Bool.false_ne_true]; rfl) l1
    have hhead : ∀ k, quant_resource.l0 (k + 1) ps (ps.length : Int) (i : Int) = if (ps[i]).toList = ([] : List UInt8) then (quant_resource.j1 k ps[i] ps (ps.length : Int) (i : Int) true) else (if 0 < ((ps[i]).size : Int) then ((quant_edge.f (bt ps[i] 0)).bind fun t450 => (if t450 = true then (if 0 ≤ (wrap64 (((ps[i]).size : Int) - 1)) then (if (wrap64 (((ps[i]).size : Int) - 1)) < ((ps[i]).size : Int) then ((quant_edge.f (bt ps[i] (wrap64 (((ps[i]).size : Int) - 1)))).bind fun t451 => (quant_resource.j1 k ps[i] ps (ps.length : Int) (i : Int) (!t451))) else (none)) else (none)) else (quant_resource.j1 k ps[i] ps (ps.length : Int) (i : Int) true))) else (none)) := by
      intro k
      simp only [quant_resource.l0]
      rw [if_pos (by omega), if_pos (by omega), if_pos (by omega), rd_ba ps i hil]
    generalize ps[i] = p at *
    unfold pieceB
    by_cases h0 : p.toList = ([] : List UInt8)
    · rw [h0, beq_self_eq_true, Bool.not_true, Bool.false_and, Bool.false_and, Bool.false_and, Bool.false_and]
      exact Ev.step (fun k => by rw [hhead, if_pos h0]) (hnext true)
    · have hpos : 0 < p.size := by rw [empty_iffR] at h0; omega
      have hb : (p.toList == ([] : List UInt8)) = false := beq_eq_false_iff_ne.2 h0
      have hw1 : wrap64 ((p.size : Int) - 1) = (p.size : Int) - 1 := by unfold wrap64; omega
      rw [hb, Bool.not_false, Bool.true_and]
      cases he : edgeB (bt p 0) with
      | false =>
        rw [Bool.false_and, Bool.false_and, Bool.false_and]
        exact Ev.step (fun k => by rw [hhead, if_neg h0, if_pos (by omega), edge_is, Option.bind_some, he, if_neg Bool.false_ne_true]) (hnext true)
      | true =>
        rw [Bool.true_and]
        have hn := hnext (!edgeB (bt p ((p.size : Int) - 1)))
        have e : (if (!edgeB (bt p ((p.size : Int) - 1))) = true then false else allFrom p p.size 0 && (ps.drop (i + 1)).all pieceB) = (edgeB (bt p ((p.size : Int) - 1)) && allFrom p p.size 0 && (ps.drop (i + 1)).all pieceB) := by
          cases edgeB (bt p ((p.size : Int) - 1)) <;> simp
        rw [e] at hn
        exact Ev.step (fun k => by rw [hhead, if_neg h0, if_pos (by omega), edge_is, Option.bind_some, he, if_pos rfl, hw1, if_pos (by omega), if_pos (by omega), edge_is, Option.bind_some]) hn
theorem split_le (sep : ByteArray) (save : Nat) : ∀ (k : Nat) (s : ByteArray), ∀ p ∈ Lib.splitB sep save k s, p.size ≤ s.size
  | 0, s, p, hp => by rw [Lib.splitB_zero, List.mem_singleton] at hp; rw [hp]; exact Nat.le_refl _
  | k + 1, s, p, hp => by
    unfold Lib.splitB at hp
    split at hp
    · rw [List.mem_singleton] at hp; rw [hp]; exact Nat.le_refl _
    · rcases List.mem_cons.1 hp with hp | hp
      · rw [hp, ByteArray.size_extract]; omega
      · have := split_le sep save k _ p hp
        rw [ByteArray.size_extract] at this
        omega
theorem resource_ev (s : ByteArray) (hs : s.size < 4611686018427387904) : Ev (fun k => quant_resource.f k s) (resP s) := by
  unfold resP
  by_cases h : 48 < s.size
  · rw [decide_eq_false (by omega), Bool.false_and]
    exact Ev.congr (f := fun _ => some false) (fun k => by unfold quant_resource.f; rw [if_pos (by omega)]) (Ev.now _)
  · rw [decide_eq_true (by omega), Bool.true_and]
    have hf : strings_Split.f s (⟨#[46]⟩ : ByteArray) = some (piecesOf s) := by unfold strings_Split.f; exact if_pos ⟨by omega, by decide⟩
    have hc := Lib.countB_le (⟨#[46]⟩ : ByteArray) (by decide) s.size s (Nat.le_refl _)
    have hl : (piecesOf s).length = Lib.countB s (⟨#[46]⟩ : ByteArray) + 1 := Lib.splitB_all (⟨#[46]⟩ : ByteArray) (by decide) 0 _ s rfl
    have key := res_l0 (piecesOf s) (by omega) (fun p hp => by have := split_le _ _ _ s p hp; omega) (piecesOf s).length 0 (by omega)
    refine Ev.congr (fun k => ?_) key
    unfold quant_resource.f
    rw [if_neg (by omega), hf, Option.bind_some]
    rfl
theorem resP_size {s : ByteArray} (h : resP s = true) : s.size ≤ 48 := by
  unfold resP at h
  rw [Bool.and_eq_true, decide_eq_true_eq] at h
  exact h.1
def okPrev (p : Option ByteArray) (x : ByteArray) : Bool := match p with | none => true | some q => nless q x
theorem okPrev_none (x : ByteArray) : okPrev none x = true := rfl
theorem okPrev_some (q x : ByteArray) : okPrev (some q) x = nless q x := rfl
def stepV : Option ByteArray → List S57 → Bool
  | _, [] => true
  | p, a :: r => resP a.f0 && decide (0 ≤ a.f1) && okPrev p a.f0 && stepV (some a.f0) r
theorem stepV_cons (p : Option ByteArray) (a : S57) (r : List S57) : stepV p (a :: r) = (resP a.f0 && decide (0 ≤ a.f1) && okPrev p a.f0 && stepV (some a.f0) r) := rfl
def validB (l : List S57) : Bool := stepV none l
def validP (l : List S57) : Int := if 16 < l.length then 23 else if validB l = true then 0 else 31
def prevOf (l : List S57) (i : Nat) : Option ByteArray := if i = 0 then none else (l[i - 1]?).map (·.f0)
theorem less_toList (x y : ByteArray) : Op.bytesLess x.toList y.toList = nless x y := by rw [ByteArray.toList_eq, ByteArray.toList_eq]; rfl
theorem valid_l0 (l : List S57) (hl : l.length ≤ 1000000) (hs : ∀ a ∈ l, a.f0.size < 4611686018427387904) : ∀ (m i : Nat), i + m = l.length → Ev (fun k => quant_Valid.l0 k l l (l.length : Int) (i : Int)) (if stepV (prevOf l i) (l.drop i) = true then 0 else 31) := by
  intro m
  induction m with
  | zero =>
    intro i hi
    rw [List.drop_eq_nil_of_le (by omega), stepV, if_pos rfl]
    refine Ev.step (f := fun _ => some 0) (fun k => ?_) (Ev.now _)
    simp only [quant_Valid.l0]
    rw [if_neg (by omega)]
  | succ m ih =>
    intro i hi
    have hil : i < l.length := by omega
    have key := ih (i + 1) (by omega)
    have hp1 : prevOf l (i + 1) = some (l[i]).f0 := by unfold prevOf; rw [if_neg (by omega), Nat.add_sub_cancel, List.getElem?_eq_getElem hil]; rfl
    have hre := resource_ev (l[i]).f0 (hs _ (List.getElem_mem hil))
    have hr0 := rd_get57 l i hil
    rw [hp1] at key
    rw [List.drop_eq_getElem_cons hil, stepV_cons]
    have hno : ∀ c : Bool, c = false → (if c = true then (0 : Int) else 31) = 31 := fun c h => by rw [h]; rfl
    refine Ev.step (f := fun k => (quant_resource.f k (l[i]).f0).bind fun t455 => (if t455 = true then (if (l[i]).f1 < 0 then (some 31) else (if (i : Int) > 0 then (if 0 ≤ (wrap64 ((i : Int) - 1)) then (if (wrap64 ((i : Int) - 1)) < (l.length : Int) then (if ((Op.bytesLess (((rd_T57 l (wrap64 ((i : Int) - 1))).f0).toList) (((l[i]).f0).toList)) = true) then (quant_Valid.l0 k l l (l.length : Int) (wrap64 ((i : Int) + 1))) else (some 31)) else (none)) else (none)) else (quant_Valid.l0 k l l (l.length : Int) (wrap64 ((i : Int) + 1))))) else (some 31))) (fun k => ?_) (Ev.bind hre ?_)
    · simp only [quant_Valid.l0]
      rw [if_pos (by omega), if_pos (by omega), if_pos (by omega), hr0]
    · cases hres : resP (l[i]).f0 with
      | false => exact Ev.congr (fun k => if_neg Bool.false_ne_true) (by rw [Bool.false_and, Bool.false_and, Bool.false_and]; exact Ev.now _)
      | true =>
        refine Ev.congr (fun k => if_pos rfl) ?_
        rw [Bool.true_and]
        by_cases hneg : (l[i]).f1 < 0
        · rw [decide_eq_false (by omega), Bool.false_and, Bool.false_and]
          exact Ev.congr (fun k => if_pos hneg) (Ev.now _)
        · rw [decide_eq_true (by omega), Bool.true_and]
          refine Ev.congr (fun k => if_neg hneg) ?_
          by_cases h0 : i = 0
          · have hp0 : prevOf l i = none := by unfold prevOf; rw [if_pos h0]
            rw [hp0, okPrev_none, Bool.true_and]
            refine Ev.congr (fun k => if_neg (by omega)) ?_
            rw [wl i (by omega)]
            exact key
          · have hp0 : prevOf l i = some (l[i - 1]'(by omega)).f0 := by unfold prevOf; rw [if_neg h0, List.getElem?_eq_getElem (by omega)]; rfl
            have hw1 : wrap64 ((i : Int) - 1) = ((i - 1 : Nat) : Int) := by unfold wrap64; omega
            rw [hp0]
            refine Ev.congr (fun k => if_pos (by omega)) ?_
            rw [hw1, rd_get57 l (i - 1) (by omega), less_toList, wl i (by omega)]
            refine Ev.congr (fun k => if_pos (by omega)) (Ev.congr (fun k => if_pos (by omega)) ?_)
            cases hlt : nless (l[i - 1]'(by omega)).f0 (l[i]).f0 with
            | true =>
              refine Ev.congr (fun k => if_pos rfl) ?_
              rw [okPrev_some, hlt, Bool.true_and]
              exact key
            | false =>
              refine Ev.congr (fun k => if_neg Bool.false_ne_true) ?_
              rw [okPrev_some, hlt, Bool.false_and]
              exact Ev.now _
theorem valid_ev (l : List S57) (hl : l.length ≤ 1048576) (hs : ∀ a ∈ l, a.f0.size < 4611686018427387904) : Ev (fun k => quant_Valid.f k l) (validP l) := by
  unfold validP validB
  by_cases h : 16 < l.length
  · rw [if_pos h]
    exact Ev.congr (f := fun _ => some 23) (fun k => by unfold quant_Valid.f; rw [if_pos (by omega)]) (Ev.now _)
  · rw [if_neg h]
    have key := valid_l0 l (by omega) hs l.length 0 (by omega)
    rw [show prevOf l 0 = none from rfl, List.drop_zero] at key
    refine Ev.congr (fun k => ?_) key
    unfold quant_Valid.f
    rw [if_neg (by omega)]
    rfl
theorem both_ev (a b : List S57) (ha : a.length ≤ 1048576) (hb : b.length ≤ 1048576) (hsa : ∀ x ∈ a, x.f0.size < 4611686018427387904) (hsb : ∀ x ∈ b, x.f0.size < 4611686018427387904) : Ev (fun k => quant_valid.f k a b) (decide (validP a = 0) && decide (validP b = 0)) := by
  refine Ev.bind (valid_ev a ha hsa) ?_
  by_cases h : validP a = 0
  · rw [decide_eq_true h, Bool.true_and]
    refine Ev.congr (fun k => if_pos h) (Ev.bind (valid_ev b hb hsb) ?_)
    refine Ev.congr (f := fun _ => some (decide (validP b = 0))) (fun k => ?_) (Ev.now _)
    congr 1
  · rw [decide_eq_false h, Bool.false_and]
    exact Ev.congr (fun k => if_neg h) (Ev.now _)
theorem step_rises : ∀ (l : List S57) (p : Option ByteArray), stepV p l = true → Rises l ∧ (∀ y ∈ l, resP y.f0 = true ∧ 0 ≤ y.f1) ∧ (∀ q, p = some q → ∀ y ∈ l, nless q y.f0 = true)
  | [], p, _ => ⟨List.Pairwise.nil, by simp, by simp⟩
  | a :: r, p, h => by
    rw [stepV_cons, Bool.and_eq_true, Bool.and_eq_true, Bool.and_eq_true, decide_eq_true_eq] at h
    obtain ⟨⟨⟨h1, h2⟩, h3⟩, h4⟩ := h
    obtain ⟨i1, i2, i3⟩ := step_rises r (some a.f0) h4
    refine ⟨rises_cons.2 ⟨i3 _ rfl, i1⟩, fun y hy => ?_, fun q hq y hy => ?_⟩
    · rcases List.mem_cons.1 hy with rfl | hy
      · exact ⟨h1, h2⟩
      · exact i2 y hy
    · subst hq
      rcases List.mem_cons.1 hy with rfl | hy
      · exact h3
      · exact nless_trans h3 (i3 _ rfl y hy)
theorem rises_step : ∀ (l : List S57) (p : Option ByteArray), Rises l → (∀ y ∈ l, resP y.f0 = true ∧ 0 ≤ y.f1) → (∀ q, p = some q → ∀ y ∈ l, nless q y.f0 = true) → stepV p l = true
  | [], p, _, _, _ => rfl
  | a :: r, p, h1, h2, h3 => by
    obtain ⟨i1, i2⟩ := rises_cons.1 h1
    have ha := h2 a (by simp)
    rw [stepV_cons, Bool.and_eq_true, Bool.and_eq_true, Bool.and_eq_true, decide_eq_true_eq]
    refine ⟨⟨⟨ha.1, ha.2⟩, ?_⟩, rises_step r (some a.f0) i2 (fun y hy => h2 y (by simp [hy])) (fun q hq y hy => by cases hq; exact i1 y hy)⟩
    cases p with
    | none => rfl
    | some q => exact h3 q rfl a (by simp)
theorem valid_iff (l : List S57) : validP l = 0 ↔ l.length ≤ 16 ∧ Rises l ∧ ∀ y ∈ l, resP y.f0 = true ∧ 0 ≤ y.f1 := by
  unfold validP validB
  by_cases h : 16 < l.length
  · rw [if_pos h]
    exact ⟨fun e => by omega, fun e => by omega⟩
  · rw [if_neg h]
    cases hs : stepV none l with
    | true =>
      rw [if_pos rfl]
      have := step_rises l none hs
      exact ⟨fun _ => ⟨by omega, this.1, this.2.1⟩, fun _ => rfl⟩
    | false =>
      rw [if_neg Bool.false_ne_true]
      refine ⟨fun e => by omega, fun e => ?_⟩
      have := rises_step l none e.2.1 e.2.2 (fun q hq => by cases hq)
      rw [hs] at this
      cases this
end Go.Proofs.YtejgbdclhlolkaaGreatDoor.Q
namespace Go.Proofs.YtejgbdclhlolkaaGreatDoor.Q
end Go.Proofs.YtejgbdclhlolkaaGreatDoor.Q
namespace Go.Proofs.YtejgbdclhlolkaaGreatDoor.Q
open Go.RowKit Go.Proofs.YtejgbdclhlolkaaGreatDoorW.PrintWords Go.Proofs.YtejgbdclhlolkaaGreatDoorW.PrintLast Go.Proofs.YtejgbdclhlolkaaGreatDoorW.PrintMore
attribute [local go_sem] max2_int min2_int max_two min_two max_three min_three max_four min_four   -- for this text's walks alone
set_option linter.unusedVariables false
set_option linter.unusedSimpArgs false
def bursarref03_Long_minus.l0 : Nat → List Int → Int → Int → List Int → List Int → Option (List Int)
|0,_,_,_,_,_ => none
|k + 1,x5,x6,x7,x200000,x201000 => if x7 < (x200000.length : Int) then (if 0 ≤ x7 then ((bursarref03_Long_at.f x201000 x7).bind fun t203 => (if (wrap64 ((wrap64 ((rd x200000 x7) - t203)) - x6)) < 0 then (if x5.length < 17592186044416 then (bursarref03_Long_minus.l0 k (x5 ++ [wrap64 ((wrap64 ((wrap64 ((rd x200000 x7) - t203)) - x6)) + 10)]) 1 (wrap64 (x7 + 1)) x200000 x201000) else (none)) else (if x5.length < 17592186044416 then (bursarref03_Long_minus.l0 k (x5 ++ [wrap64 ((wrap64 ((rd x200000 x7) - t203)) - x6)]) 0 (wrap64 (x7 + 1)) x200000 x201000) else (none)))) else (none)) else ((bursarref03_cut.f k x5).bind fun t210 => (some t210))
def bursarref03_Long_minus.f (k : Nat) (l0_0 : List Int) (l1_0 : List Int) : Option (List Int) := bursarref03_Long_minus.l0 k ([] : List Int) 0 0 l0_0 l1_0
theorem bursarref03_Long_minus.mono_l : ∀ k, (∀ y0 y1 y2 y3 y4, LeO (bursarref03_Long_minus.l0 k y0 y1 y2 y3 y4) (bursarref03_Long_minus.l0 (k + 1) y0 y1 y2 y3 y4))
|0 => fun _ _ _ _ _ r h => by simp [bursarref03_Long_minus.l0] at h
|k + 1 => by
  have ih0:=bursarref03_Long_minus.mono_l k
  ·intro y0 y1 y2 y3 y4
   unfold bursarref03_Long_minus.l0
   repeat' first
  |(with_reducible exact ih0 _ _ _ _ _)
  |(with_reducible exact bursarref03_cut.mono _ _)
  |(with_reducible exact LeO.refl _)
  |(with_reducible exact LeO.none _)
  |(with_reducible refine LeO.ite ?_ ?_)
  |(with_reducible refine LeO.bind ?_ (fun _ => ?_))
  |exact ih0 _ _ _ _ _
  |exact bursarref03_cut.mono _ _
  |exact LeO.none _
  |refine LeO.ite ?_ ?_
  |refine LeO.bind ?_ (fun _ => ?_)
theorem bursarref03_Long_minus.mono : ∀ a0 a1 k, LeO (bursarref03_Long_minus.f k a0 a1) (bursarref03_Long_minus.f (k + 1) a0 a1) := by
 intro a0 a1 k
 have ih0:=bursarref03_Long_minus.mono_l k
 unfold bursarref03_Long_minus.f
 repeat' first
  |(with_reducible exact ih0 _ _ _ _ _)
  |(with_reducible exact bursarref03_cut.mono _ _)
  |(with_reducible exact LeO.refl _)
  |(with_reducible exact LeO.none _)
  |(with_reducible refine LeO.ite ?_ ?_)
  |(with_reducible refine LeO.bind ?_ (fun _ => ?_))
  |exact ih0 _ _ _ _ _
  |exact bursarref03_cut.mono _ _
  |exact LeO.none _
  |refine LeO.ite ?_ ?_
  |refine LeO.bind ?_ (fun _ => ?_)
end Go.Proofs.YtejgbdclhlolkaaGreatDoor.Q
namespace Go.Proofs.YtejgbdclhlolkaaGreatDoor.Q
open Go.RowKit Go.Proofs.YtejgbdclhlolkaaGreatDoorW.PrintWords Go.Proofs.YtejgbdclhlolkaaGreatDoorW.PrintLast Go.Proofs.YtejgbdclhlolkaaGreatDoorW.PrintMore
attribute [local go_sem] max2_int min2_int max_two min_two max_three min_three max_four min_four   -- for this text's walks alone
set_option linter.unusedVariables false
set_option linter.unusedSimpArgs false
mutual
def bursarref03_Long_by.l0 : Nat → List Int → Int → List Int → List Int → List Int → Option (List Int × List Int)
|0,_,_,_,_,_ => none
|k + 1,x6,x8,x214000,x215000,x221000 => if x8 ≥ 0 then (if 0 ≤ x8 then (if x8 < (x214000.length : Int) then (if ([] : List Int).length < 17592186044416 then ((some (([] : List Int) ++ [rd x214000 x8] : List Int)).bind fun y225 => (if y225.length + x221000.length < 17592186044416 then ((bursarref03_cut.f k (y225 ++ x221000)).bind fun t231 => (bursarref03_Long_by.l1 k x6 x8 x214000 x215000 t231)) else (none))) else (none)) else (none)) else (none)) else ((bursarref03_cut.f k x6).bind fun t221 => (some (t221,x221000)))
def bursarref03_Long_by.l1 : Nat → List Int → Int → List Int → List Int → List Int → Option (List Int × List Int)
|0,_,_,_,_,_ => none
|k + 1,x6,x8,x214000,x215000,x221000 => (bursarref03_Long_less.f k x221000 x215000).bind fun t234 => (if t234 = true then (bursarref03_Long_by.l0 k x6 (wrap64 (x8 - 1)) x214000 x215000 x221000) else ((bursarref03_Long_minus.f k x221000 x215000).bind fun t235 => (if 0 ≤ x8 then (if x8 < (x6.length : Int) then (bursarref03_Long_by.l1 k (x6.set (x8 : Int).toNat (wrap64 ((rd x6 x8) + 1))) x8 x214000 x215000 t235) else (none)) else (none))))
end
def bursarref03_Long_by.f (k : Nat) (l0_0 : List Int) (l1_0 : List Int) : Option (List Int × List Int) := if 0 ≤ (l0_0.length : Int) then (if ((l0_0.length : Int) : Int).toNat ≤ 35184372088832 then (bursarref03_Long_by.l0 k (List.replicate ((l0_0.length : Int) : Int).toNat 0) (wrap64 ((l0_0.length : Int) - 1)) l0_0 l1_0 ([] : List Int)) else (none)) else (none)
theorem bursarref03_Long_by.mono_l : ∀ k, (∀ y0 y1 y2 y3 y4, LeO (bursarref03_Long_by.l0 k y0 y1 y2 y3 y4) (bursarref03_Long_by.l0 (k + 1) y0 y1 y2 y3 y4)) ∧ (∀ y0 y1 y2 y3 y4, LeO (bursarref03_Long_by.l1 k y0 y1 y2 y3 y4) (bursarref03_Long_by.l1 (k + 1) y0 y1 y2 y3 y4))
|0 => ⟨fun _ _ _ _ _ r h => by simp [bursarref03_Long_by.l0] at h,fun _ _ _ _ _ r h => by simp [bursarref03_Long_by.l1] at h⟩
|k + 1 => by
  obtain ⟨ih0,ih1⟩:=bursarref03_Long_by.mono_l k
  refine ⟨?_,?_⟩
  ·intro y0 y1 y2 y3 y4
   unfold bursarref03_Long_by.l0
   repeat' first
  |(with_reducible exact ih0 _ _ _ _ _)
  |(with_reducible exact ih1 _ _ _ _ _)
  |(with_reducible exact bursarref03_Long_less.mono _ _ _)
  |(with_reducible exact bursarref03_Long_minus.mono _ _ _)
  |(with_reducible exact bursarref03_cut.mono _ _)
  |(with_reducible exact LeO.refl _)
  |(with_reducible exact LeO.none _)
  |(with_reducible refine LeO.ite ?_ ?_)
  |(with_reducible refine LeO.bind ?_ (fun _ => ?_))
  |exact ih0 _ _ _ _ _
  |exact ih1 _ _ _ _ _
  |exact bursarref03_Long_less.mono _ _ _
  |exact bursarref03_Long_minus.mono _ _ _
  |exact bursarref03_cut.mono _ _
  |exact LeO.none _
  |refine LeO.ite ?_ ?_
  |refine LeO.bind ?_ (fun _ => ?_)
  ·intro y0 y1 y2 y3 y4
   unfold bursarref03_Long_by.l1
   repeat' first
  |(with_reducible exact ih0 _ _ _ _ _)
  |(with_reducible exact ih1 _ _ _ _ _)
  |(with_reducible exact bursarref03_Long_less.mono _ _ _)
  |(with_reducible exact bursarref03_Long_minus.mono _ _ _)
  |(with_reducible exact bursarref03_cut.mono _ _)
  |(with_reducible exact LeO.refl _)
  |(with_reducible exact LeO.none _)
  |(with_reducible refine LeO.ite ?_ ?_)
  |(with_reducible refine LeO.bind ?_ (fun _ => ?_))
  |exact ih0 _ _ _ _ _
  |exact ih1 _ _ _ _ _
  |exact bursarref03_Long_less.mono _ _ _
  |exact bursarref03_Long_minus.mono _ _ _
  |exact bursarref03_cut.mono _ _
  |exact LeO.none _
  |refine LeO.ite ?_ ?_
  |refine LeO.bind ?_ (fun _ => ?_)
theorem bursarref03_Long_by.mono : ∀ a0 a1 k, LeO (bursarref03_Long_by.f k a0 a1) (bursarref03_Long_by.f (k + 1) a0 a1) := by
 intro a0 a1 k
 obtain ⟨ih0,ih1⟩:=bursarref03_Long_by.mono_l k
 unfold bursarref03_Long_by.f
 repeat' first
  |(with_reducible exact ih0 _ _ _ _ _)
  |(with_reducible exact ih1 _ _ _ _ _)
  |(with_reducible exact bursarref03_Long_less.mono _ _ _)
  |(with_reducible exact bursarref03_Long_minus.mono _ _ _)
  |(with_reducible exact bursarref03_cut.mono _ _)
  |(with_reducible exact LeO.refl _)
  |(with_reducible exact LeO.none _)
  |(with_reducible refine LeO.ite ?_ ?_)
  |(with_reducible refine LeO.bind ?_ (fun _ => ?_))
  |exact ih0 _ _ _ _ _
  |exact ih1 _ _ _ _ _
  |exact bursarref03_Long_less.mono _ _ _
  |exact bursarref03_Long_minus.mono _ _ _
  |exact bursarref03_cut.mono _ _
  |exact LeO.none _
  |refine LeO.ite ?_ ?_
  |refine LeO.bind ?_ (fun _ => ?_)
end Go.Proofs.YtejgbdclhlolkaaGreatDoor.Q
namespace Go.Proofs.YtejgbdclhlolkaaGreatDoor.Q
open Go.RowKit Go.Proofs.YtejgbdclhlolkaaGreatDoorW.PrintWords Go.Proofs.YtejgbdclhlolkaaGreatDoorW.PrintLast Go.Proofs.YtejgbdclhlolkaaGreatDoorW.PrintMore
attribute [local go_sem] max2_int min2_int max_two min_two max_three min_three max_four min_four   -- for this text's walks alone
set_option linter.unusedVariables false
set_option linter.unusedSimpArgs false
mutual
def bursarref03_Long_times.l0 : Nat → List Int → Int → List Int → List Int → Option (List Int)
|0,_,_,_,_ => none
|k + 1,x5,x6,x139000,x140000 => if x6 < (x139000.length : Int) then (bursarref03_Long_times.l1 k x5 x6 0 0 x139000 x140000) else ((bursarref03_cut.f k x5).bind fun t144 => (some t144))
def bursarref03_Long_times.l1 : Nat → List Int → Int → Int → Int → List Int → List Int → Option (List Int)
|0,_,_,_,_,_,_ => none
|k + 1,x5,x6,x7,x8,x139000,x140000 => if x8 < (x140000.length : Int) then (if 0 ≤ (wrap64 (x6 + x8)) then (if (wrap64 (x6 + x8)) < (x5.length : Int) then (if 0 ≤ x6 then (if x6 < (x139000.length : Int) then ((bursarref03_Long_at.f x140000 x8).bind fun t149 => (bursarref03_Long_times.l1 k (x5.set ((wrap64 (x6 + x8)) : Int).toNat (Int.tmod (wrap64 ((wrap64 ((rd x5 (wrap64 (x6 + x8))) + (wrap64 ((rd x139000 x6) * t149)))) + x7)) 10)) x6 (wrap64 (Int.tdiv (wrap64 ((wrap64 ((rd x5 (wrap64 (x6 + x8))) + (wrap64 ((rd x139000 x6) * t149)))) + x7)) 10)) (wrap64 (x8 + 1)) x139000 x140000)) else (none)) else (none)) else (none)) else (none)) else (if x7 > 0 then (if 0 ≤ (wrap64 (x6 + x8)) then (if (wrap64 (x6 + x8)) < (x5.length : Int) then (if 0 ≤ x6 then (if x6 < (x139000.length : Int) then ((bursarref03_Long_at.f x140000 x8).bind fun t153 => (bursarref03_Long_times.l1 k (x5.set ((wrap64 (x6 + x8)) : Int).toNat (Int.tmod (wrap64 ((wrap64 ((rd x5 (wrap64 (x6 + x8))) + (wrap64 ((rd x139000 x6) * t153)))) + x7)) 10)) x6 (wrap64 (Int.tdiv (wrap64 ((wrap64 ((rd x5 (wrap64 (x6 + x8))) + (wrap64 ((rd x139000 x6) * t153)))) + x7)) 10)) (wrap64 (x8 + 1)) x139000 x140000)) else (none)) else (none)) else (none)) else (none)) else (bursarref03_Long_times.l0 k x5 (wrap64 (x6 + 1)) x139000 x140000))
end
def bursarref03_Long_times.f (k : Nat) (l0_0 : List Int) (l1_0 : List Int) : Option (List Int) := if 0 ≤ (wrap64 ((wrap64 ((l0_0.length : Int) + (l1_0.length : Int))) + 1)) then (if (wrap64 ((wrap64 ((l0_0.length : Int) + (l1_0.length : Int))) + 1) : Int).toNat ≤ 35184372088832 then (bursarref03_Long_times.l0 k (List.replicate (wrap64 ((wrap64 ((l0_0.length : Int) + (l1_0.length : Int))) + 1) : Int).toNat 0) 0 l0_0 l1_0) else (none)) else (none)
theorem bursarref03_Long_times.mono_l : ∀ k, (∀ y0 y1 y2 y3, LeO (bursarref03_Long_times.l0 k y0 y1 y2 y3) (bursarref03_Long_times.l0 (k + 1) y0 y1 y2 y3)) ∧ (∀ y0 y1 y2 y3 y4 y5, LeO (bursarref03_Long_times.l1 k y0 y1 y2 y3 y4 y5) (bursarref03_Long_times.l1 (k + 1) y0 y1 y2 y3 y4 y5))
|0 => ⟨fun _ _ _ _ r h => by simp [bursarref03_Long_times.l0] at h,fun _ _ _ _ _ _ r h => by simp [bursarref03_Long_times.l1] at h⟩
|k + 1 => by
  obtain ⟨ih0,ih1⟩:=bursarref03_Long_times.mono_l k
  refine ⟨?_,?_⟩
  ·intro y0 y1 y2 y3
   unfold bursarref03_Long_times.l0
   repeat' first
  |(with_reducible exact ih0 _ _ _ _)
  |(with_reducible exact ih1 _ _ _ _ _ _)
  |(with_reducible exact bursarref03_cut.mono _ _)
  |(with_reducible exact LeO.refl _)
  |(with_reducible exact LeO.none _)
  |(with_reducible refine LeO.ite ?_ ?_)
  |(with_reducible refine LeO.bind ?_ (fun _ => ?_))
  |exact ih0 _ _ _ _
  |exact ih1 _ _ _ _ _ _
  |exact bursarref03_cut.mono _ _
  |exact LeO.none _
  |refine LeO.ite ?_ ?_
  |refine LeO.bind ?_ (fun _ => ?_)
  ·intro y0 y1 y2 y3 y4 y5
   unfold bursarref03_Long_times.l1
   repeat' first
  |(with_reducible exact ih0 _ _ _ _)
  |(with_reducible exact ih1 _ _ _ _ _ _)
  |(with_reducible exact bursarref03_cut.mono _ _)
  |(with_reducible exact LeO.refl _)
  |(with_reducible exact LeO.none _)
  |(with_reducible refine LeO.ite ?_ ?_)
  |(with_reducible refine LeO.bind ?_ (fun _ => ?_))
  |exact ih0 _ _ _ _
  |exact ih1 _ _ _ _ _ _
  |exact bursarref03_cut.mono _ _
  |exact LeO.none _
  |refine LeO.ite ?_ ?_
  |refine LeO.bind ?_ (fun _ => ?_)
theorem bursarref03_Long_times.mono : ∀ a0 a1 k, LeO (bursarref03_Long_times.f k a0 a1) (bursarref03_Long_times.f (k + 1) a0 a1) := by
 intro a0 a1 k
 obtain ⟨ih0,ih1⟩:=bursarref03_Long_times.mono_l k
 unfold bursarref03_Long_times.f
 repeat' first
  |(with_reducible exact ih0 _ _ _ _)
  |(with_reducible exact ih1 _ _ _ _ _ _)
  |(with_reducible exact bursarref03_cut.mono _ _)
  |(with_reducible exact LeO.refl _)
  |(with_reducible exact LeO.none _)
  |(with_reducible refine LeO.ite ?_ ?_)
  |(with_reducible refine LeO.bind ?_ (fun _ => ?_))
  |exact ih0 _ _ _ _
  |exact ih1 _ _ _ _ _ _
  |exact bursarref03_cut.mono _ _
  |exact LeO.none _
  |refine LeO.ite ?_ ?_
  |refine LeO.bind ?_ (fun _ => ?_)
end Go.Proofs.YtejgbdclhlolkaaGreatDoor.Q
