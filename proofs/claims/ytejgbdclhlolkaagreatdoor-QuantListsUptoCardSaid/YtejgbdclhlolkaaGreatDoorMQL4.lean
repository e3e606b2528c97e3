/- What the statement QuantListsUptoCardSaid rests on, part 4 of 7: walks and plain laws; what of the printer's words it leans on. -/
import Derived.Test.YtejgbdclhlolkaaGreatDoorMQL3
import Derived.Maps.RangeWalk
import Derived.Maps.OwnSet
import Derived.Shelf.SlSortCmp.NoneTotal
namespace Go.Proofs.YtejgbdclhlolkaaGreatDoor.Q
open Go.RowKit Go.Lib Go.Sort Go.Shelf Go.Proofs.YtejgbdclhlolkaaGreatDoorW.PrintWords Go.Proofs.YtejgbdclhlolkaaGreatDoorW.PrintLast
set_option linter.unusedVariables false
set_option linter.unusedSimpArgs false
theorem cmp_less : ∀ a b : List UInt8, decide (Lib.compareBytes a b < 0) = Op.bytesLess a b
  | [], [] => rfl
  | [], _ :: _ => rfl
  | _ :: _, [] => rfl
  | a :: x, b :: y => by
    simp only [Lib.compareBytes, Op.bytesLess]
    by_cases h1 : a < b
    · simp [h1]
    · by_cases h2 : b < a
      · have : (a == b) = false := beq_eq_false_iff_ne.2 (fun e => by subst e; exact h1 h2)
        simp [h1, h2, this]
      · have e : a = b := UInt8.le_antisymm (UInt8.not_lt.1 h2) (UInt8.not_lt.1 h1)
        subst e
        simp [h1, cmp_less x y]
instance : Inhabited S57 := ⟨z57⟩
def encAm (x : S57) : List Value := [.string x.f0, .int .i64 x.f1]
def cmpAm (x y : S57) : Int := Lib.compareBytes x.f0.data.toList y.f0.data.toList
theorem ltAm (x y : S57) : ltOf cmpAm x y = Op.bytesLess x.f0.data.toList y.f0.data.toList := by
  unfold ltOf cmpAm
  exact cmp_less _ _
theorem swoAm : SWO (ltOf cmpAm) where
  irrefl x := by rw [ltAm]; exact less_irrefl _
  trans x y z h1 h2 := by rw [ltAm] at *; exact less_trans _ _ _ h1 h2
  ntrans x y z h1 h2 := by
    rw [ltAm] at *
    cases h3 : Op.bytesLess x.f0.data.toList z.f0.data.toList with
    | false => rfl
    | true =>
      exfalso
      have t := less_total y.f0.data.toList x.f0.data.toList
      rw [h1, Bool.not_false, Bool.or_eq_true] at t
      rcases t with t | t
      · rw [less_trans _ _ _ t h3] at h2; cases h2
      · rw [beq_iff_eq] at t
        rw [t, h3] at h2; cases h2
set_option maxHeartbeats 2000000 in
set_option maxRecDepth 100000 in
theorem listed1_calls (x y : S57) (W : World) : Calls Tryz.prog 96 #[.agg #[.string x.f0, .int .i64 x.f1], .agg #[.string y.f0, .int .i64 y.f1]] W fun e w' => e = .returned (.int .i64 (cmpAm x y)) ∧ ∃ q os', w' = grow (W.drewN q) os' := by
  have hu57 := Tryz.underlying57
  have hcon := fun W' => Tryz.strings_Compare x.f0 y.f0 W'
  change ∀ W', Calls Tryz.prog 97 _ _ (fun e w' => e = .returned (.int .i64 (cmpAm x y)) ∧ w' = W') at hcon
  generalize cmpAm x y = r at hcon ⊢
  go_enter Tryz.func96, Tryz.ntmps96
  go_wp2_with (go_at_call 97; refine (hcon _).mono ?_; rintro e w' ⟨rfl, rfl⟩)
  go_ret
  exact ⟨rfl, 0, _, by rw [alloc_eq_grow, alloc_eq_grow, grow_grow]; rfl⟩
theorem cmpLaysAm (blk off size : Nat) (w : World) : CmpLays Tryz.prog 96 #[] encAm 2 cmpAm blk off size w :=
  fun _ _ _ _ x y => listed1_calls x y _
theorem sort_calls (blk off cap : Nat) (d : Array S57) (w : World) (hH : HoldsK encAm 2 w blk off d) (hblk : blk < w.heap.size) (hsz : d.size < 4611686018427387904) :
    Calls Tryz.prog 95 #[.slice (some ⟨blk, off, none⟩) d.size cap, .func (.func 96) #[] #[]] w fun e w' => e = .returned (.tuple #[]) ∧ ∃ d' n os, PermIn 0 d.size d d' ∧ SortedIn (ltOf cmpAm) 0 d.size d' ∧ w' = sortWorldK encAm 2 w blk off n d' os := by
  have eg : ∀ args w, (callFunc 96 args).run Tryz.prog w = .ok (.enter 96 args) w := enters_of Tryz.func96 (by kernel_rfl) rfl
  exact AnyQ.slices_SortFunc Tryz.sortAm 2 Tryz.isAgg57 Tryz.sizeOf57 encAm (fun _ => rfl) (fun x v hv => by simp [encAm] at hv; rcases hv with rfl | rfl <;> rfl) cmpAm swoAm 96 #[] blk off cap d w eg (cmpLaysAm blk off d.size w) hH hblk hsz
end Go.Proofs.YtejgbdclhlolkaaGreatDoor.Q
namespace Go.Proofs.YtejgbdclhlolkaaGreatDoor.Q
open Go.RowKit Go.Lib Go.Sort Go.Shelf Go.WideMaps Go.Maps Go.Proofs.YtejgbdclhlolkaaGreatDoorW.PrintWords Go.Proofs.YtejgbdclhlolkaaGreatDoorW.PrintLast
set_option linter.unusedVariables false
set_option linter.unusedSimpArgs false
def keyL (x : S57) : Lit := .string x.f0.data.toList
structure Gathered (xs : List S57) (D : DataW Unit) (left : Lit → Bool) : Prop where
  apart : (xs.map keyL).Nodup
  here : ∀ x ∈ xs, left (keyL x) = false ∧ Maps.has D (keyL x) = true ∧ ∀ z, D.atKey (keyL x) z = .lit (.int .i64 x.f1)
  all : ∀ s : List UInt8, Maps.has D (.string s) = true → left (.string s) = false → Lit.string s ∈ xs.map keyL
theorem gathered_start (D : DataW Unit) : Gathered [] D (Maps.has D) := ⟨by simp, by simp, fun s h1 h2 => by rw [h1] at h2; cases h2⟩
theorem gathered_step {xs : List S57} {D : DataW Unit} {left : Lit → Bool} (h : Gathered xs D left) (x : S57) (hl : left (keyL x) = true) (hat : ∀ z, D.atKey (keyL x) z = .lit (.int .i64 x.f1)) :
    Gathered (xs ++ [x]) D (fun z => left z && !z.sameKey (keyL x)) := by
  have hnot : keyL x ∉ xs.map keyL := fun hm => by
    obtain ⟨y, hy, e⟩ := List.mem_map.1 hm
    have := (h.here y hy).1
    rw [e, hl] at this
    cases this
  have hself : (keyL x).sameKey (keyL x) = true := WideAt.sameKey_self (by trivial)
  refine ⟨?_, ?_, ?_⟩
  · rw [List.map_append, List.nodup_append]
    refine ⟨h.apart, by simp, fun a ha b hb => ?_⟩
    simp at hb
    subst hb
    exact fun e => hnot (e ▸ ha)
  · intro y hy
    rcases List.mem_append.1 hy with hy | hy
    · obtain ⟨h1, h2⟩ := h.here y hy
      exact ⟨by simp [h1], h2⟩
    · obtain rfl : y = x := by simpa using hy
      refine ⟨by simp [hself], Maps.has_true_of_atKey hat, hat⟩
  · intro s h1 h2
    rw [List.map_append, List.mem_append]
    by_cases e : Lit.string s = keyL x
    · exact .inr (by simp [e])
    · left
      refine h.all s h1 ?_
      rw [sameKey_ne e] at h2
      simpa using h2
theorem flat_get {xs : List S57} {t : Nat} (ht : t < xs.length * 2) : (flatK encAm 2 xs.toArray).toList[t]? = (encAm (xs.getD (t / 2) z57))[t % 2]? := by
  have hj : t / 2 < xs.length := by omega
  have h1 : (flatK encAm 2 xs.toArray).toList[t]? = some ((encAm (xs.toArray[t / 2]!))[t % 2]!) := by
    rw [Array.getElem?_toList]
    simp [flatK, ht]
  have h2 : xs.toArray[t / 2]! = xs.getD (t / 2) z57 := by
    simp [List.getD_eq_getElem?_getD, hj]
  rw [h1, h2]
  have h3 : t % 2 = 0 ∨ t % 2 = 1 := by omega
  rcases h3 with h3 | h3 <;> rw [h3] <;> rfl
theorem flat_len (xs : List S57) : (flatK encAm 2 xs.toArray).toList.length = xs.length * 2 := by simp
theorem inner57 {w : World} {base : Nat} {ok : Nat → Prop} {xs : List S57} {inner : List Value} (h : Reps (k57.M w base ok) 2 xs inner) : inner = (flatK encAm 2 xs.toArray).toList := by
  apply List.ext_getElem?
  intro t
  by_cases ht : t < xs.length * 2
  · have hj : t / 2 < xs.length := by omega
    have hk := k57_openM (h.2 (t / 2) _ (List.getElem?_eq_getElem hj))
    have h1 : inner[t]? = ((inner.drop (t / 2 * 2)).take 2)[t % 2]? := by
      rw [List.getElem?_take_of_lt (by omega), List.getElem?_drop]
      congr 1
      omega
    rw [h1, hk, flat_get ht]
    simp [encAm, List.getD_eq_getElem?_getD, hj]
  · rw [List.getElem?_eq_none (by rw [h.1]; omega), List.getElem?_eq_none (by rw [flat_len]; omega)]
theorem reps57 (w : World) (base : Nat) (ok : Nat → Prop) (xs : List S57) : Reps (k57.M w base ok) 2 xs (flatK encAm 2 xs.toArray).toList := by
  refine ⟨flat_len xs, fun j p hj => ?_⟩
  obtain ⟨hl, rfl⟩ := List.getElem?_eq_some_iff.1 hj
  have e : (((flatK encAm 2 xs.toArray).toList.drop (j * 2)).take 2) = encAm xs[j] := by
    apply List.ext_getElem?
    intro t
    by_cases ht : t < 2
    · rw [List.getElem?_take_of_lt ht, List.getElem?_drop, flat_get (by omega)]
      have h1 : (j * 2 + t) / 2 = j := by omega
      have h2 : (j * 2 + t) % 2 = t := by omega
      rw [h1, h2]
      simp [List.getD_eq_getElem?_getD, hl]
    · rw [List.getElem?_take_eq_none (by omega), List.getElem?_eq_none (by simp [encAm]; omega)]
  rw [e]
  exact k57_mkM w base ok _
theorem holds57 {w : World} {g : Nat} {cur : Array Value} {e : TypeId} {xs : List S57} (hb : w.heap[g]? = some (.cells cur e (0, 0))) (ht : cur.toList.take (xs.length * 2) = (flatK encAm 2 xs.toArray).toList) : HoldsK encAm 2 w g 0 xs.toArray := by
  unfold HoldsK
  intro j hj
  have hj' : j < xs.length * 2 := by simpa using hj
  refine ⟨?_, by simp [World.frozen?, hb]⟩
  have h1 : (cur.toList.take (xs.length * 2))[j]? = (flatK encAm 2 xs.toArray).toList[j]? := by rw [ht]
  rw [List.getElem?_take_of_lt hj'] at h1
  simp only [World.cell?, hb, Nat.zero_add]
  simp only [Option.isSome_none, Bool.false_eq_true, if_false]
  rw [← Array.getElem?_toList, h1, Array.getElem?_toList, Array.getElem?_eq_getElem hj, getElem!_pos _ j hj]
  rfl
theorem heap57 {w : World} {g n : Nat} {os : Array Obj} {cur : Array Value} {e : TypeId} {fr : Nat × Nat} (d : Array S57) (hb : w.heap[g]? = some (.cells cur e fr)) :
    (sortWorldK encAm 2 w g 0 n d os).heap[g]? = some (.cells (putCells id 0 (flatK encAm 2 d) cur) e fr) := by
  have hg : g < w.heap.size := (Array.getElem?_eq_some_iff.1 hb).1
  unfold sortWorldK putRowK
  rw [heap_grow_old _ _ (by simpa using hg)]
  simp [putRow, mapBlock, Sort.ahead, Array.getElem?_modify, hb, onCells]
theorem grown57 {w : World} {g n : Nat} {os : Array Obj} (d : Array S57) : w.grownBy (sortWorldK encAm 2 w g 0 n d os) (some g) := by
  unfold sortWorldK putRowK
  refine ⟨rfl, rfl, rfl, by simp, fun k hk hne => ?_⟩
  rw [heap_grow_old _ _ (by simpa using hk)]
  have : g ≠ k := fun e => hne (by rw [e])
  simp [putRow, mapBlock, Sort.ahead, Array.getElem?_modify, this]
theorem take57 (cur : Array Value) (ts : List S57) (h : ts.length * 2 ≤ cur.size) : (putCells id 0 (flatK encAm 2 ts.toArray) cur).toList.take (ts.length * 2) = (flatK encAm 2 ts.toArray).toList := by
  apply List.ext_getElem?
  intro j
  by_cases hj : j < ts.length * 2
  · rw [List.getElem?_take_of_lt hj, Array.getElem?_toList, Array.getElem?_toList]
    simp [putCells, hj, show j < cur.size by omega]
  · rw [List.getElem?_take_eq_none (by omega), List.getElem?_eq_none (by rw [flat_len]; omega)]
def Rises (L : List S57) : Prop := L.Pairwise fun x y => Op.bytesLess x.f0.data.toList y.f0.data.toList = true
structure Tells (D : DataW Unit) (L : List S57) : Prop where
  tidy : Tidy D
  rises : Rises L
  size : Maps.size D = L.length
  here : ∀ x ∈ L, ∀ z, D.atKey (keyL x) z = .lit (.int .i64 x.f1)
  all : ∀ s : List UInt8, Maps.has D (.string s) = true → Lit.string s ∈ L.map keyL
theorem Rises.names {L : List S57} (h : Rises L) : (L.map keyL).Nodup := by
  refine List.Pairwise.map _ (fun x y hxy e => ?_) h
  unfold keyL at e
  injection e with e
  rw [e, less_irrefl] at hxy
  cases hxy
theorem nodup_of_map {α β : Type} (f : α → β) : ∀ {l : List α}, (l.map f).Nodup → l.Nodup
  | [], _ => List.nodup_nil
  | x :: l, h => by
    rw [List.map_cons, List.nodup_cons] at h
    exact List.nodup_cons.2 ⟨fun hm => h.1 (List.mem_map.2 ⟨x, hm, rfl⟩), nodup_of_map f h.2⟩
theorem ba_ext {a b : ByteArray} (h : a.data.toList = b.data.toList) : a = b := by
  obtain ⟨⟨x⟩⟩ := a
  obtain ⟨⟨y⟩⟩ := b
  simp only at h
  rw [h]
theorem map_inj {α β : Type} {f : α → β} {x y : α} : ∀ {l : List α}, (l.map f).Nodup → x ∈ l → y ∈ l → f x = f y → x = y
  | [], _, hx, _, _ => by simp at hx
  | a :: l, h, hx, hy, e => by
    rw [List.map_cons, List.nodup_cons] at h
    rcases List.mem_cons.1 hx with h1 | h1
    · rcases List.mem_cons.1 hy with h2 | h2
      · rw [h1, h2]
      · exact absurd (List.mem_map.2 ⟨y, h2, by rw [← h1]; exact e.symm⟩) h.1
    · rcases List.mem_cons.1 hy with h2 | h2
      · exact absurd (List.mem_map.2 ⟨x, h1, by rw [← h2]; exact e⟩) h.1
      · exact map_inj h.2 h1 h2 e
theorem s57_ext {x y : S57} (h0 : keyL x = keyL y) (h1 : x.f1 = y.f1) : x = y := by
  unfold keyL at h0
  injection h0 with h0
  cases x; cases y
  simp only at h0 h1
  subst h1
  congr 1
  exact ba_ext h0
theorem same_value {D : DataW Unit} {x y : S57} (hx : ∀ z, D.atKey (keyL x) z = .lit (.int .i64 x.f1)) (hy : ∀ z, D.atKey (keyL y) z = .lit (.int .i64 y.f1)) (e : keyL x = keyL y) : x = y := by
  refine s57_ext e ?_
  have h1 := hx (.map [])
  have h2 := hy (.map [])
  rw [← e, h1] at h2
  injection h2 with h2
  injection h2 with _ h2
theorem gathered_perm {xs L : List S57} {D : DataW Unit} {left : Lit → Bool} (h : Gathered xs D left) (hT : Tells D L) (hl : ∀ kl, left kl = false) : xs.Perm L := by
  refine (List.perm_ext_iff_of_nodup (nodup_of_map keyL h.apart) (nodup_of_map keyL hT.rises.names)).2 (fun x => ⟨fun hx => ?_, fun hx => ?_⟩)
  · obtain ⟨_, h2, h3⟩ := h.here x hx
    obtain ⟨y, hy, e⟩ := List.mem_map.1 (hT.all _ h2)
    rw [same_value h3 (hT.here y hy) e.symm]
    exact hy
  · have h2 := Maps.has_true_of_atKey (hT.here x hx)
    obtain ⟨y, hy, e⟩ := List.mem_map.1 (h.all _ h2 (hl _))
    rw [same_value (hT.here x hx) (h.here y hy).2.2 e.symm]
    exact hy
theorem sorted_is {xs L : List S57} {d' : Array S57} (hp : PermIn 0 xs.toArray.size xs.toArray d') (hs : SortedIn (ltOf cmpAm) 0 xs.toArray.size d') (hL : xs.Perm L) (hr : Rises L) : d'.toList = L := by
  have hsz : d'.size = xs.length := by have := hp.1; simpa using this
  have h1 : d'.toList.Perm xs := by
    have := hp.2.2
    have e1 : d'.extract 0 xs.toArray.size = d' := by
      have : xs.toArray.size = d'.size := by simp [hsz]
      rw [this]
      exact Array.extract_size
    have e2 : xs.toArray.extract 0 xs.toArray.size = xs.toArray := Array.extract_size
    rw [e1, e2] at this
    simpa using this
  refine List.Perm.eq_of_pairwise (le := fun a b => Op.bytesLess b.f0.data.toList a.f0.data.toList = false) ?_ ?_ ?_ (h1.trans hL)
  · intro a b ha hb h3 h4
    have hab : a.f0.data.toList = b.f0.data.toList := by
      have t := less_total a.f0.data.toList b.f0.data.toList
      rw [h3, h4] at t
      simpa using t
    have ha' : a ∈ L := (h1.trans hL).mem_iff.1 ha
    by_cases e : a = b
    · exact e
    · exfalso
      have hk : keyL a = keyL b := by unfold keyL; rw [hab]
      have hn := hr.names
      exact e (map_inj hn ha' hb hk)
  · rw [List.pairwise_iff_getElem]
    intro i j hi hj hij
    have := hs i j (Nat.zero_le _) hij (by simpa [hsz] using hj)
    rw [ltAm] at this
    simpa [getElem!_pos, show i < d'.size by simpa using hi, show j < d'.size by simpa using hj] using this
  · refine hr.imp ?_
    intro a b hab
    cases h3 : Op.bytesLess b.f0.data.toList a.f0.data.toList with
    | false => rfl
    | true => exact absurd ((less_trans _ _ _ hab h3).symm.trans (less_irrefl _)) (by decide)
theorem sort_row {w : World} {base : Nat} {ok : Nat → Prop} {v : Value} {xs L : List S57} (HR : Kd.R k57 57 w base ok v xs) (hp : xs.Perm L) (hr : Rises L) (hl : L.length ≤ 16) :
    Calls Tryz.prog 95 #[v, .func (.func 96) #[] #[]] w fun e w' => e = .returned (.tuple #[]) ∧ Kd.R k57 57 w' base ok v L ∧ w.grownBy w' v.ownBlock := by
  obtain ⟨h0, inner, ho, hi⟩ := HR
  have hlen := hp.length_eq
  rcases ho.2 with ⟨rfl, hn⟩ | ⟨g, cap, cur, rfl, hg, hb, h1, h2, h3, h4⟩
  · obtain rfl := List.eq_nil_of_length_eq_zero hn
    obtain rfl : L = [] := List.eq_nil_of_length_eq_zero (by simpa using hlen.symm)
    refine Calls.mono (AnyF.slices_SortFunc_none Tryz.sortAm none 0 (.func (.func 96) #[] #[]) w) ?_
    rintro e w' ⟨rfl, rfl⟩
    exact ⟨rfl, Kd.R_nil _ _ _ _ _, ⟨rfl, rfl, rfl, Nat.le_refl _, fun _ _ _ => rfl⟩⟩
  · have hin := inner57 hi
    have hH := holds57 hb (h4.trans hin)
    have hlt : g < w.heap.size := (Array.getElem?_eq_some_iff.1 hb).1
    have hc := sort_calls g 0 cap xs.toArray w hH hlt (by simp; omega)
    simp only [List.size_toArray] at hc
    refine hc.mono ?_
    rintro e w' ⟨rfl, d', n, os, hP, hS, rfl⟩
    have hd := sorted_is (by simpa using hP) (by simpa using hS) hp hr
    have hsz : d'.size = L.length := by rw [← hd]; simp
    have hda : d' = L.toArray := by rw [← hd]
    refine ⟨rfl, ⟨h0, (flatK encAm 2 L.toArray).toList, ⟨flat_len L, .inr ⟨g, cap, _, by rw [hlen], hg, heap57 d' hb, by omega, h2, by simp [putCells, h3], ?_⟩⟩, reps57 _ _ _ L⟩, grown57 d'⟩
    rw [hda]
    exact take57 cur L (by rw [h3]; show L.length * 2 ≤ cap * 2; omega)
theorem law9 : Keyed Tryz.prog 9 := string_keyed Tryz.underlying9
theorem inv9 (key : Value) (kl : Lit) (h : keyOf Tryz.prog 9 key = some kl) : ∃ x, key = Value.string x := by
  cases key <;> simp [keyOf, Tryz.underlying9, mapKey] at h
  exact ⟨_, rfl⟩
theorem inv2 (v : Value) (y : DataW Unit × List MemPlace) (h : plainElem (H := Unit) Tryz.prog 2 v = some y) : ∃ c, v = Value.int .i64 c := by
  obtain ⟨c, rfl, _⟩ := plainElem_int_inv Tryz.underlying2 h
  exact ⟨c, rfl⟩
theorem key9 {x : ByteArray} {kl : Lit} (h : keyOf Tryz.prog 9 (.string x) = some kl) : kl = .string x.data.toList := by
  simp [keyOf, Tryz.underlying9, mapKey] at h
  exact h.2.symm
theorem elem2 {c : Int} {y : DataW Unit × List MemPlace} (h : plainElem (H := Unit) Tryz.prog 2 (.int .i64 c) = some y) : y.1 = .lit (.int .i64 c) := by
  obtain ⟨c', e, rfl, _⟩ := plainElem_int_inv Tryz.underlying2 h
  cases e
  rfl
def quant_listed.f (L : List S57) : List S57 × Int := if L.length > 16 then ([], 23) else (L, 0)
set_option maxHeartbeats 4000000 in
set_option maxRecDepth 100000 in
theorem quant_listed.calls (b n : Nat) (D : DataW Unit) (L : List S57) (r1 : List S57) (r2 : Int) (w : World) (hown : w.ownsMap Tryz.prog 9 (plainElem (H := Unit) Tryz.prog 2) b n D) (hT : Tells D L) (h : quant_listed.f L = (r1, r2)) :
    Calls Tryz.prog 74 #[.map (some b)] w fun e w' => ∃ v0_ : Value, e = .returned (.tuple #[v0_, .int .i64 r2]) ∧ Kd.R k57 57 w' w.heap.size (fun _ => True) v0_ r1 ∧ Below w.heap.size w w' := by
  have hu57 := Tryz.underlying57
  have HT := Lib.hid hT
  have HOWN := Aside0.mk hown
  have hsize := hT.size
  unfold quant_listed.f at h
  by_cases h16 : L.length > 16
  · rw [if_pos h16] at h
    obtain ⟨rfl, rfl⟩ := Prod.mk.inj h
    clear hT hown h
    have hlt : decide ((Maps.size D : Int) > 16) = true := by rw [hsize]; simp; omega
    have HLT := Lib.hid hlt
    clear hlt
    go_enter Tryz.func74, Tryz.ntmps74
    go_wp2_with (first | (at_len; refine wpList_len_own _ rfl _ 98 rfl 9 2 Tryz.underlying98 _ b n D rfl HOWN.out ?_))
    go_ret2
    exact ⟨_, rfl, Kd.R_nil _ _ _ _ _, Below.refl _ _⟩
  · rw [if_neg h16] at h
    obtain ⟨rfl, rfl⟩ := Prod.mk.inj h
    have hb := hown.lt
    have hgt : ¬ ((Maps.size D : Int) > 16) := by rw [hsize]; omega
    clear hT hown h
    go_enter Tryz.func74, Tryz.ntmps74
    go_wp2_with (first
      | (at_len; refine wpList_len_own _ rfl _ 98 rfl 9 2 Tryz.underlying98 _ b n D rfl HOWN.out ?_)
      | (at_range; refine wpList_range_own _ rfl _ 98 rfl 9 2 law9 Tryz.underlying98 _ b n D rfl HOWN.out ?_; intro w0 hrg0 hg0 hs0)
      | go_in)
    have hbl0 : Below w.heap.size w w0 := ⟨hg0.os, hg0.tape, hg0.output, hg0.size, fun k hk => hg0.block k hk (by simp)⟩
    have HB0 := Aside0.mk hbl0
    clear hg0 hbl0
    have hsD : Maps.size D ≤ 16 := by omega
    go_loopg [4, 5, 6] (Maps.size D) (fun g v4 v5 v6 wr => ∃ (left : Lit → Bool) (cnt : Nat) (xs : List S57), Aside0 (wr.ranges Tryz.prog 9 (plainElem (H := Unit) Tryz.prog 2) b w.heap.size n D left cnt) ∧ cnt ≤ g ∧ xs.length + cnt ≤ Maps.size D ∧ Aside0 (Gathered xs D left) ∧ Aside0 (Kd.R k57 57 wr w.heap.size (fun k => k ≠ w.heap.size ∧ k ≠ b) v4 xs) ∧ Aside0 (Below w.heap.size w wr))
    case atStart => exact ⟨_, _, [], ⟨hrg0⟩, by omega, by simp, ⟨gathered_start D⟩, ⟨Kd.R_nil _ _ _ _ _⟩, HB0⟩
    case round =>
      clear HB0 hrg0 hs0
      obtain ⟨left, cnt, xs, HRG, hcg, hxc, HGA, HR, HB⟩ := hrel
      go_wp2_with (first
        | (at_next; refine wpList_next_ranges _ rfl _ rfl 9 law9 (plainElem (H := Unit) Tryz.prog 2) Value.string (Value.int .i64) inv9 inv2 b w.heap.size n D left cnt rfl HRG.out ?_ ?_)
        | go_in)
      · intro hc0 hl0
        have hperm := gathered_perm HGA.out HT.out hl0
        have hLs : L.length ≤ 16 := by omega
        have HSORT := Lib.hid (sort_row HR.out hperm HT.out.rises hLs)
        go_wp2_with (go_at_call 95; refine HSORT.out.mono ?_; rintro e w4 ⟨rfl, ho4, hg4⟩; have HO4 := Aside0.mk ho4; have HG4 := Aside0.mk hg4; clear ho4 hg4)
        go_ret2
        exact ⟨_, rfl, Kd.R_mono HO4.out (fun _ _ => trivial), HB.out.grown HG4.out HB.out.size (fun j hj => own_base HR.out.2.choose_spec.1 j hj)⟩
      · intro x c kl yd yp w1 cnt1 hkey hlk hv hat hrg1 hlt hg1 hs1 hen
        obtain rfl := key9 hkey
        rw [show yd = _ from elem2 hv] at hat
        have HGA1 := Lib.hid (gathered_step HGA.out ⟨x, c⟩ hlk hat)
        have hbr := HRG.out.ne
        have HR1 := Aside0.mk (Kd.R_grown HR.out hg1 (fun k hk e => hk.1 (by injection e)))
        have HB1 := Aside0.mk (HB.out.grown hg1 HB.out.size (fun j hj => by cases hj; exact Nat.le_refl _))
        have HRG1 := Aside0.mk hrg1
        have hszb := HRG.out.lt
        have hbs := HB.out.size
        have HS1 := Lib.hid hs1
        obtain ⟨g, rfl⟩ : ∃ g, gk = g + 1 := ⟨gk - 1, by omega⟩
        clear hkey hlk hv hat hrg1 hg1 hs1
        go_wp2_with (first
          | ((with_reducible refine gate_builtin (b := .append) (xs := #[.tmp 17, .tmp 21]) rfl ?_); at_builtin; refine Kd.R_append k57 (w0 := w) w.heap.size rfl (.tmp 17) (.tmp 21) 46 57 (.agg #[(.string ⟨#[]⟩), (.int .i64 0)]) 24 rfl Tryz.underlying46 info57 rfl (by decide) (by omega) u4 xs ⟨x, c⟩ [.string x, .int .i64 c] (fun k => k ≠ w.heap.size ∧ k ≠ b) (fun _ => False) rfl rfl ?aP (fun _ hk => hk.elim) ?aF ?aO ?aB ?aS ?aL ?_; (case aP => exact k57_mkM _ _ _ ⟨x, c⟩); (case aB => exact HB1.out); (case aF => exact (fun k hk => by have := HS1.out; constructor <;> omega)); (case aO => exact HR1.out); (case aS => exact HB1.out.size); (case aL => omega);
                intro v2 w2 ho hb2 hg2 hat2; have HO2 := Aside0.mk ho; have HB2 := Aside0.mk hb2; clear ho hb2)
          | go_in)
        have HRG2 := Aside0.mk (HRG1.out.kept hg2 (fun e => (HR1.out.1 b e.symm).2 rfl) (fun e => (HR1.out.1 _ e.symm).1 rfl))
        go_roundg g
        case measure => omega
        case rel => exact ⟨_, cnt1, xs ++ [⟨x, c⟩], HRG2, by omega, by simp; omega, ⟨HGA1.out⟩, HO2, HB2⟩
end Go.Proofs.YtejgbdclhlolkaaGreatDoor.Q
namespace Go.Proofs.YtejgbdclhlolkaaGreatDoor.Q
open Go.RowKit Go.Lib Go.WideMaps Go.Maps Go.Proofs.YtejgbdclhlolkaaGreatDoorW.PrintWords Go.Proofs.YtejgbdclhlolkaaGreatDoorW.PrintLast
set_option linter.unusedVariables false
set_option linter.unusedSimpArgs false
def nless (x y : ByteArray) : Bool := Op.bytesLess x.data.toList y.data.toList
theorem nless_irrefl (x : ByteArray) : nless x x = false := less_irrefl _
theorem nless_trans {x y z : ByteArray} (h : nless x y = true) (k : nless y z = true) : nless x z = true := less_trans _ _ _ h k
theorem nless_total {x y : ByteArray} (h : nless y x = false) (hne : x ≠ y) : nless x y = true := by
  unfold nless at *
  have t := less_total x.data.toList y.data.toList
  rw [h, Bool.not_false, Bool.or_eq_true] at t
  rcases t with t | t
  · exact t
  · exact absurd (ba_ext (by simpa using t)) hne
def valOf : List S57 → ByteArray → Int
  | [], _ => 0
  | a :: l, x => if a.f0 = x then a.f1 else valOf l x
def insS : List S57 → ByteArray → Int → List S57
  | [], x, v => [⟨x, v⟩]
  | a :: l, x, v => if a.f0 = x then ⟨x, v⟩ :: l else if nless x a.f0 = true then ⟨x, v⟩ :: a :: l else a :: insS l x v
theorem rises_cons {a : S57} {l : List S57} : Rises (a :: l) ↔ (∀ y ∈ l, nless a.f0 y.f0 = true) ∧ Rises l := List.pairwise_cons
theorem mem_ins {x : ByteArray} {v : Int} {y : S57} : ∀ {L : List S57}, Rises L → (y ∈ insS L x v ↔ y = ⟨x, v⟩ ∨ (y ∈ L ∧ y.f0 ≠ x))
  | [], _ => by simp [insS]
  | a :: l, h => by
    obtain ⟨h1, h2⟩ := rises_cons.1 h
    unfold insS
    by_cases e : a.f0 = x
    · rw [if_pos e]
      subst e
      simp only [List.mem_cons]
      constructor
      · rintro (h3 | h3)
        · exact .inl h3
        · exact .inr ⟨.inr h3, fun e => by have := h1 y h3; rw [e, nless_irrefl] at this; cases this⟩
      · rintro (h3 | ⟨h3 | h3, h4⟩)
        · exact .inl h3
        · rw [h3] at h4; exact absurd rfl h4
        · exact .inr h3
    · rw [if_neg e]
      by_cases hl : nless x a.f0 = true
      · rw [if_pos hl]
        simp only [List.mem_cons]
        constructor
        · rintro (h3 | h3 | h3)
          · exact .inl h3
          · exact .inr ⟨.inl h3, fun e' => e (by rw [← h3]; exact e')⟩
          · exact .inr ⟨.inr h3, fun e' => by have := nless_trans hl (h1 y h3); rw [e', nless_irrefl] at this; cases this⟩
        · rintro (h3 | ⟨h3 | h3, h4⟩)
          · exact .inl h3
          · exact .inr (.inl h3)
          · exact .inr (.inr h3)
      · rw [if_neg hl]
        simp only [List.mem_cons, mem_ins (x := x) (v := v) (y := y) h2]
        constructor
        · rintro (h3 | h3 | ⟨h3, h4⟩)
          · exact .inr ⟨.inl h3, fun e' => e (by rw [← h3]; exact e')⟩
          · exact .inl h3
          · exact .inr ⟨.inr h3, h4⟩
        · rintro (h3 | ⟨h3 | h3, h4⟩)
          · exact .inr (.inl h3)
          · exact .inl h3
          · exact .inr (.inr ⟨h3, h4⟩)
theorem rises_ins {x : ByteArray} {v : Int} : ∀ {L : List S57}, Rises L → Rises (insS L x v)
  | [], _ => by simp [insS, Rises]
  | a :: l, h => by
    obtain ⟨h1, h2⟩ := rises_cons.1 h
    unfold insS
    by_cases e : a.f0 = x
    · rw [if_pos e]
      exact rises_cons.2 ⟨fun y hy => by show nless x y.f0 = true; rw [← e]; exact h1 y hy, h2⟩
    · rw [if_neg e]
      by_cases hl : nless x a.f0 = true
      · rw [if_pos hl]
        refine rises_cons.2 ⟨fun y hy => ?_, h⟩
        rcases List.mem_cons.1 hy with h3 | h3
        · rw [h3]; exact hl
        · exact nless_trans hl (h1 y h3)
      · rw [if_neg hl]
        refine rises_cons.2 ⟨fun y hy => ?_, rises_ins h2⟩
        rcases (mem_ins h2).1 hy with h3 | ⟨h3, _⟩
        · rw [h3]
          exact nless_total (by simpa using hl) e
        · exact h1 y h3
def named (L : List S57) (x : ByteArray) : Bool := L.any fun y => decide (y.f0 = x)
theorem length_ins {x : ByteArray} {v : Int} : ∀ {L : List S57}, Rises L → (insS L x v).length = if named L x = true then L.length else L.length + 1
  | [], _ => by simp [insS, named]
  | a :: l, h => by
    obtain ⟨h1, h2⟩ := rises_cons.1 h
    unfold insS
    by_cases e : a.f0 = x
    · rw [if_pos e, if_pos (by simp [named, e])]
      simp
    · rw [if_neg e]
      by_cases hl : nless x a.f0 = true
      · rw [if_pos hl, if_neg]
        · simp
        · simp only [named, List.any_eq_true, List.mem_cons, decide_eq_true_eq]
          rintro ⟨y, h3 | h3, h4⟩
          · rw [h3] at h4; exact e h4
          · have := nless_trans hl (h1 y h3); rw [h4, nless_irrefl] at this; cases this
      · rw [if_neg hl, List.length_cons, length_ins h2]
        have hn : named (a :: l) x = named l x := by simp [named, e]
        rw [hn]
        split <;> simp
theorem val_mem {y : S57} : ∀ {L : List S57}, Rises L → y ∈ L → valOf L y.f0 = y.f1
  | [], _, hy => by simp at hy
  | a :: l, h, hy => by
    obtain ⟨h1, h2⟩ := rises_cons.1 h
    unfold valOf
    rcases List.mem_cons.1 hy with h3 | h3
    · rw [h3, if_pos rfl]
    · rw [if_neg (fun e => by have := h1 y h3; rw [e, nless_irrefl] at this; cases this), val_mem h2 h3]
theorem val_none {x : ByteArray} : ∀ {L : List S57}, (∀ y ∈ L, y.f0 ≠ x) → valOf L x = 0
  | [], _ => rfl
  | a :: l, h => by
    unfold valOf
    rw [if_neg (h a (by simp)), val_none (fun y hy => h y (by simp [hy]))]
theorem keyL_inj {y : S57} {s : ByteArray} (h : keyL y = .string s.data.toList) : y.f0 = s := by
  unfold keyL at h
  injection h with h
  exact ba_ext h
theorem tells_nil : Tells (.map []) [] := ⟨tidy_empty, List.Pairwise.nil, rfl, by simp, fun s h => by simp [Maps.has] at h⟩
theorem Tells.named {D : DataW Unit} {L : List S57} (h : Tells D L) (x : ByteArray) : Maps.has D (.string x.data.toList) = named L x := by
  cases hn : Q.named L x with
  | true =>
    simp only [Q.named, List.any_eq_true, decide_eq_true_eq] at hn
    obtain ⟨y, hy, rfl⟩ := hn
    exact Maps.has_true_of_atKey (h.here y hy)
  | false =>
    cases hh : Maps.has D (.string x.data.toList) with
    | false => rfl
    | true =>
      obtain ⟨y, hy, e⟩ := List.mem_map.1 (h.all _ hh)
      have := keyL_inj e
      simp only [Q.named, List.any_eq_false, decide_eq_true_eq] at hn
      exact absurd this (hn y hy)
theorem Tells.at {D : DataW Unit} {L : List S57} (h : Tells D L) (x : ByteArray) : D.atKey (.string x.data.toList) (.lit (.int .i64 0)) = .lit (.int .i64 (valOf L x)) := by
  cases hn : Q.named L x with
  | true =>
    simp only [Q.named, List.any_eq_true, decide_eq_true_eq] at hn
    obtain ⟨y, hy, rfl⟩ := hn
    rw [val_mem h.rises hy]
    exact h.here y hy _
  | false =>
    have h1 := h.named x
    rw [hn] at h1
    rw [atKey_of_not_has h1, val_none]
    intro y hy e
    simp only [Q.named, List.any_eq_false, decide_eq_true_eq] at hn
    exact hn y hy e
theorem Tells.put {D : DataW Unit} {L : List S57} (h : Tells D L) (x : ByteArray) (v : Int) : Tells (D.put (.string x.data.toList) (.lit (.int .i64 v))) (insS L x v) := by
  refine ⟨h.tidy.put (by trivial) _, rises_ins h.rises, ?_, fun y hy z => ?_, fun s hs => ?_⟩
  · rw [size_put h.tidy, h.named x, length_ins h.rises, h.size]
  · rcases (mem_ins h.rises).1 hy with rfl | ⟨h1, h2⟩
    · exact atKey_put_same h.tidy.isMap (by trivial) _ z
    · rw [atKey_put_other (fun e => h2 (keyL_inj e))]
      exact h.here y h1 z
  · by_cases e : (Lit.string s) = .string x.data.toList
    · rw [e]
      exact List.mem_map.2 ⟨⟨x, v⟩, (mem_ins h.rises).2 (.inl rfl), rfl⟩
    · rw [has_put_other e] at hs
      obtain ⟨y, hy, he⟩ := List.mem_map.1 (h.all s hs)
      refine List.mem_map.2 ⟨y, (mem_ins h.rises).2 (.inr ⟨hy, fun e' => e ?_⟩), he⟩
      rw [← he]
      unfold keyL
      rw [e']
def addP (a v : Int) : Int × Int := if a < 0 ∨ v < 0 then (0, 1) else if a > wrap64 (9223372036854775807 - v) then (0, 7) else (wrap64 (a + v), 0)
theorem add_is (a v : Int) : quant_Add.f 1 a v = some (addP a v) := by
  unfold quant_Add.f addP quant_Add.j0
  by_cases h1 : a < 0
  · simp [h1]
  · by_cases h2 : v < 0
    · simp [h1, h2]
    · simp only [h1, h2, if_false, decide_false, Bool.false_eq_true, or_self]
      split <;> rfl
def sumGo : List S57 → List S57 → Except Int (List S57)
  | L, [] => .ok L
  | L, a :: r => if (addP (valOf L a.f0) a.f1).2 = 0 then sumGo (insS L a.f0 (addP (valOf L a.f0) a.f1).1) r else .error (addP (valOf L a.f0) a.f1).2
def quant_summed.f (ls : List (List S57)) : List S57 × Int :=
  match sumGo [] ls.flatten with
  | .error e => ([], e)
  | .ok L => quant_listed.f L
theorem zero2 (w : World) : (zeroValue 2).run Tryz.prog w = .ok (.int .i64 0) w := by kernel_rfl
theorem key48 {s : ByteArray} (h : s.size ≤ 48) : keyOf Tryz.prog 9 (.string s) = some (.string s.data.toList) := keyOf_string_mk Tryz.underlying9 (by unfold maxLen; omega)
theorem lookup2 (w : World) {ops : Array Oper} {rest : List Oper} {o : Oper} {a : Act} {Q : Exit → Act → World → Prop}
    (hg : o.guard = none) (m x : Operand) (hop : o.op = Op.lookup 98 m x false) (b n : Nat) (D : DataW Unit) (L : List S57) (hT : Tells D L)
    (hm : a.eval m = .map (some b)) (hown : w.ownsMap Tryz.prog 9 (plainElem (H := Unit) Tryz.prog 2) b n D) (s : ByteArray) (hs : s.size ≤ 48) (hx : a.eval x = .string s)
    (hK : wpList Tryz.prog ops Q rest (a.put o.dst (.int .i64 (valOf L s))) w) :
    wpList Tryz.prog ops Q (o :: rest) a w := by
  refine wpList_lookup_own_int w hg m x 98 hop 9 2 .i64 law9 Tryz.underlying98 Tryz.underlying2 (zero2 _) b n D hm hown _ _ hx (key48 hs) (fun c hc _ => ?_)
  rw [hT.at] at hc
  injection hc with h1
  injection h1 with _ h2
  subst h2
  exact hK
theorem own_drewN {w : World} {b n : Nat} {D : DataW Unit} (h : w.ownsMap Tryz.prog 9 (plainElem (H := Unit) Tryz.prog 2) b n D) (k : Nat) : (w.drewN k).ownsMap Tryz.prog 9 (plainElem (H := Unit) Tryz.prog 2) b n D := h
theorem ok_wf {a v s : Int} (h : addP a v = (s, 0)) : (Lit.int .i64 s).wf = true := by
  unfold addP at h
  split at h
  · cases h
  · split at h
    · cases h
    · obtain ⟨rfl, _⟩ := Prod.mk.inj h
      exact RowKit.wrap64_wf _
theorem flat_rest (ls : List (List S57)) (i : Nat) (h : i < ls.length) : (ls.drop i).flatten = rd_L3 ls (i : Int) ++ (ls.drop (i + 1)).flatten := by
  rw [List.drop_eq_getElem_cons h, List.flatten_cons]
  simp [rd_L3, List.getD_eq_getElem?_getD, h]
theorem item_rest (l : List S57) (j : Nat) (h : j < l.length) : l.drop j = rd_T57 l (j : Int) :: l.drop (j + 1) := by
  rw [List.drop_eq_getElem_cons h]
  simp [rd_T57, List.getD_eq_getElem?_getD, h]
set_option maxHeartbeats 8000000 in
set_option maxRecDepth 100000 in
theorem quant_summed.calls (A0 : Option Addr) (c0 : Nat) (ls : List (List S57)) (r1 : List S57) (r2 : Int) (w : World) (hr0 : Kd.C (Kd.slice 57 k57) w A0 ls.length ls) (hc0 : ls.length ≤ c0)
    (h48 : ∀ l ∈ ls, ∀ x ∈ l, x.f0.size ≤ 48) (hlen : ls.flatten.length ≤ 9223372036854775807) (h : quant_summed.f ls = (r1, r2)) :
    Calls Tryz.prog 72 #[.slice A0 ls.length c0] w fun e w' => ∃ v0_ : Value, e = .returned (.tuple #[v0_, .int .i64 r2]) ∧ Kd.R k57 57 w' w.heap.size (fun _ => True) v0_ r1 ∧ Below w.heap.size w w' := by
  have hu57 := Tryz.underlying57
  have hmm := @run_makeMap Tryz.prog
  have HR0 := Aside0.mk hr0
  have HC0 := Aside0.mk hc0
  have hll := hr0.2.1
  have HF := Lib.hid h
  have H48 := Lib.hid h48
  clear hr0 hc0 h h48
  obtain ⟨gm, hgm⟩ : ∃ gm, gm = w.heap.size := ⟨_, rfl⟩
  have HGM := Lib.hid hgm
  have HOWN0 := Aside0.mk (World.ownsMap_made w Tryz.prog 9 (plainElem (H := Unit) Tryz.prog 2))
  have HB0 := Aside0.mk ((Below.refl w.heap.size w).alloc (Nat.le_refl _) (.map #[] 0))
  go_enter Tryz.func72, Tryz.ntmps72
  go_wp2
  rw [← hgm] at HOWN0
  rw [← hgm]
  clear hgm
  go_loopg [6, 8, 9, 10, 14] ls.length (fun g v6 v8 v9 v10 v14 wr => ∃ (i n : Nat) (D : DataW Unit) (L : List S57), v14 = .int .i64 i ∧ i ≤ ls.length ∧ ls.length ≤ i + g ∧ n + (ls.drop i).flatten.length ≤ 9223372036854775807 ∧ Aside0 (wr.ownsMap Tryz.prog 9 (plainElem (H := Unit) Tryz.prog 2) gm n D) ∧ Aside0 (Tells D L) ∧ Aside0 (sumGo [] ls.flatten = sumGo L (ls.drop i).flatten) ∧ Aside0 (Below w.heap.size w wr))
  case atStart => exact ⟨0, 0, _, [], rfl, by omega, by omega, by simpa using hlen, HOWN0, ⟨tells_nil⟩, ⟨rfl⟩, HB0⟩
  case round =>
    clear HOWN0 HB0 hlen
    obtain ⟨i, n, D, L, rfl, hin, hig, hnt, hown, hT, hgo, hbw⟩ := hrel
    have HOWN := hown
    have HT := hT
    by_cases hlt : i < ls.length
    · cases gk with
      | zero => omega
      | succ g =>
        obtain ⟨ad, A1, c1, eA, hx0, hl1, hi1⟩ := at_L3 HR0.out (i : Int) (by omega) (by omega)
        cases eA
        rw [Int.toNat_natCast] at hx0
        replace hx0 := (hbw.out.cell (World.block_lt_of_cell? w _ hx0)).trans hx0
        have hfl := flat_rest ls i hlt
        rw [hfl, List.length_append] at hnt
        have HGO := Lib.hid (show sumGo [] ls.flatten = sumGo L (rd_L3 ls (i : Int) ++ (ls.drop (i + 1)).flatten) by rw [← hfl]; exact hgo.out)
        have H48i : Hid (∀ x ∈ rd_L3 ls (i : Int), x.f0.size ≤ 48) := Lib.hid (H48.out _ (by simp [rd_L3, List.getD_eq_getElem?_getD, hlt]))
        have HR1 := Aside0.mk hi1
        have HC1 := Aside0.mk hl1
        have hli := hi1.2.1
        clear hfl hgo hi1 hl1
        generalize rd_L3 ls (i : Int) = l at *
        obtain ⟨R, hR⟩ : ∃ R, R = (ls.drop (i + 1)).flatten := ⟨_, rfl⟩
        rw [← hR] at hnt HGO
        have HRR := Lib.hid hR
        clear hR hT hown
        rename Aside0 (Below w.heap.size w wr) => HBW
        go_wp2
        go_loopg [8, 9, 10, 20] l.length (fun g2 v8 v9 v10 v20 wq => ∃ (j m : Nat) (E : DataW Unit) (M : List S57), v20 = .int .i64 j ∧ j ≤ l.length ∧ l.length ≤ j + g2 ∧ m + (l.length - j + R.length) ≤ 9223372036854775807 ∧ Aside0 (wq.ownsMap Tryz.prog 9 (plainElem (H := Unit) Tryz.prog 2) gm m E) ∧ Aside0 (Tells E M) ∧ Aside0 (sumGo [] ls.flatten = sumGo M (l.drop j ++ R)) ∧ Aside0 (Below w.heap.size w wq))
        case atStart => exact ⟨0, n, D, L, rfl, by omega, by omega, by omega, HOWN, HT, ⟨HGO.out⟩, HBW⟩
        case round =>
          clear HOWN HT HGO
          obtain ⟨j, m, E, M, rfl, hjn, hjg, hmt, HOWN, HT, HGO, HBQ⟩ := hrel
          by_cases hjl : j < l.length
          · cases gk with
            | zero => omega
            | succ g2 =>
              obtain ⟨ad2, eA2, hy0, hy1⟩ := at_T57 HR1.out (j : Int) (by omega) (by omega)
              cases eA2
              rw [Int.toNat_natCast] at hy0 hy1
              replace hy0 := (HBQ.out.cell (World.block_lt_of_cell? w _ hy0)).trans hy0
              replace hy1 := (HBQ.out.cell (World.block_lt_of_cell? w _ hy1)).trans hy1
              have h48x := H48i.out (rd_T57 l (j : Int)) (by rw [rd_T57, Int.toNat_natCast, List.getD_eq_getElem?_getD, List.getElem?_eq_getElem hjl]; exact List.getElem_mem hjl)
              have HGO2 := Lib.hid (show sumGo [] ls.flatten = sumGo M (rd_T57 l (j : Int) :: (l.drop (j + 1) ++ R)) by rw [← List.cons_append, ← item_rest l j hjl]; exact HGO.out)
              clear HGO
              have hxe : (⟨(rd_T57 l (j : Int)).f0, (rd_T57 l (j : Int)).f1⟩ : S57) = rd_T57 l (j : Int) := rfl
              rw [← hxe] at HGO2
              generalize (rd_T57 l (j : Int)).f0 = xs at *
              generalize (rd_T57 l (j : Int)).f1 = xv at *
              clear hxe
              have HOWN2 := Aside0.mk (HOWN.out.alloc (.cells #[.string xs, .int .i64 xv] 57))
              have HBQ2 := Aside0.mk (HBQ.out.alloc HBQ.out.size (.cells #[.string xs, .int .i64 xv] 57))
              obtain ⟨s, er, hse⟩ : ∃ s er, addP (valOf M xs) xv = (s, er) := ⟨_, _, rfl⟩
              have HADD := Lib.hid (show quant_Add.f 1 (valOf M xs) xv = some (s, er) by rw [add_is, hse])
              have HSE := Lib.hid hse
              clear hse
              by_cases her : er = 0
              · subst her
                have HGO3 := Lib.hid (show sumGo [] ls.flatten = sumGo (insS M xs s) (l.drop (j + 1) ++ R) by rw [HGO2.out, sumGo]; simp only [HSE.out, if_true])
                have HT3 := Aside0.mk (HT.out.put xs s)
                clear HGO2
                go_wp2_with (first
                  | (at_lookup; refine lookup2 _ rfl _ _ rfl gm m E M HT.out rfl HOWN2.out xs h48x rfl ?_)
                  | (go_at_call 26; refine (quant_Add.calls 1 (valOf M xs) xv s 0 _ HADD.out).mono ?_; rintro e w4 ⟨rfl, ⟨nd, rfl⟩⟩; have HOWN4 := Aside0.mk (own_drewN HOWN2.out nd))
                  | (at_mapUpdate; refine wpList_mapUpdate_own _ rfl _ _ _ 98 rfl 9 2 law9 Tryz.underlying98 _ gm m E rfl HOWN4.out (by unfold maxLen; omega) _ _ _ rfl rfl (key48 h48x) _ [] (plainElem_int Tryz.underlying2 (ok_wf HSE.out)) ?_; intro w5 hown5 hgrow5)
                  | go_in)
                have HB5 := Aside0.mk ((pw_below_drewN HBQ2.out nd).grown hgrow5 HBQ2.out.size (fun k hk => by cases hk; rw [HGM.out]; exact Nat.le_refl _))
                have HOWN5 := Aside0.mk hown5
                clear hown5 hgrow5
                go_roundg g2
                case measure => omega
                case rel => exact ⟨j + 1, m + 1, _, _, by go_num, by omega, by omega, by omega, HOWN5, HT3, ⟨HGO3.out⟩, HB5⟩
              · have HRES := Lib.hid (show ([], er) = (r1, r2) by
                  have h1 := HF.out
                  unfold quant_summed.f at h1
                  rw [HGO2.out, sumGo] at h1
                  simp only [HSE.out, if_neg her] at h1
                  exact h1)
                have hrr := HRES.out
                obtain ⟨e1, e2⟩ := Prod.mk.inj hrr
                have HR1E := Lib.hid e1
                have HR2E := Lib.hid e2
                clear hrr e1 e2 HGO2
                have hne : (er != 0) = true := bne_iff_ne.2 her
                go_wp2_with (first
                  | (at_lookup; refine lookup2 _ rfl _ _ rfl gm m E M HT.out rfl HOWN2.out xs h48x rfl ?_)
                  | (go_at_call 26; refine (quant_Add.calls 1 (valOf M xs) xv s er _ HADD.out).mono ?_; rintro e w4 ⟨rfl, ⟨nd, rfl⟩⟩)
                  | go_in)
                go_ret2
                refine ⟨.slice none 0 0, ?_, by rw [← HR1E.out]; exact Kd.R_nil _ _ _ _ _, pw_below_drewN HBQ2.out nd⟩
                rw [← HR2E.out]
                rfl
          · obtain rfl : j = l.length := by omega
            have HGO2 := Lib.hid (show sumGo [] ls.flatten = sumGo M (ls.drop (i + 1)).flatten by rw [HGO.out, List.drop_length, List.nil_append, HRR.out])
            clear HGO
            go_wp2
            go_roundg g
            case measure => omega
            case rel => exact ⟨i + 1, m, E, M, by go_num, by omega, by omega, by rw [← HRR.out]; omega, HOWN, HT, ⟨HGO2.out⟩, HBQ⟩
    · obtain rfl : i = ls.length := by omega
      have hgo2 := hgo.out
      rw [List.drop_length, List.flatten_nil, sumGo] at hgo2
      have HQ := Lib.hid (show quant_listed.f L = (r1, r2) by have := HF.out; unfold quant_summed.f at this; rw [hgo2] at this; exact this)
      clear hgo2 hgo
      go_wp2_with (go_at_call 74; refine (quant_listed.calls gm n D L r1 r2 _ hown.out hT.out HQ.out).mono ?_; rintro e w4 ⟨v4, rfl, ho4, hb4⟩; have HO4 := Aside0.mk (Kd.R_lower ho4 hbw.out.size); have HB4 := Aside0.mk (below_step hbw.out hb4); clear ho4 hb4)
      go_ret2
      exact ⟨_, rfl, HO4.out, HB4.out⟩
end Go.Proofs.YtejgbdclhlolkaaGreatDoor.Q
namespace Go.Proofs.YtejgbdclhlolkaaGreatDoor.Q
open Go.RowKit Go.Lib Go.Proofs.YtejgbdclhlolkaaGreatDoorW.PrintWords Go.Proofs.YtejgbdclhlolkaaGreatDoorW.PrintLast
set_option linter.unusedVariables false
set_option linter.unusedSimpArgs false
def sumOK (ls : List (List S57)) : Bool := (ls.all fun l => l.all fun x => decide (x.f0.size ≤ 48)) && decide (ls.flatten.length ≤ 9223372036854775807)
theorem sumOK_names {ls : List (List S57)} (h : sumOK ls = true) : ∀ l ∈ ls, ∀ x ∈ l, x.f0.size ≤ 48 := by
  unfold sumOK at h
  simp only [Bool.and_eq_true, List.all_eq_true, decide_eq_true_eq] at h
  exact h.1
theorem sumOK_len {ls : List (List S57)} (h : sumOK ls = true) : ls.flatten.length ≤ 9223372036854775807 := by
  unfold sumOK at h
  simp only [Bool.and_eq_true, decide_eq_true_eq] at h
  exact h.2
theorem rows2_C {w : World} {A0 A1 : Option Addr} {c0 c1 : Nat} {l0 l1 : List S57} (h0 : Kd.C k57 w A0 l0.length l0) (hc0 : l0.length ≤ c0) (h1 : Kd.C k57 w A1 l1.length l1) (hc1 : l1.length ≤ c1) (e : TypeId) :
    Kd.C (Kd.slice 57 k57) (w.alloc (.cells #[.slice A0 l0.length c0, .slice A1 l1.length c1] e)) (some ⟨w.heap.size, 0, none⟩) [l0, l1].length [l0, l1] := by
  have hb : Below w.heap.size w (w.alloc (.cells #[.slice A0 l0.length c0, .slice A1 l1.length c1] e)) := (Below.refl _ _).alloc (Nat.le_refl _) _
  refine ⟨rfl, by simp, fun _ => ⟨_, rfl, fun j p hj => ?_⟩⟩
  match j, hj with
  | 0, hj =>
    obtain rfl := Option.some.inj hj
    refine ⟨[.slice A0 l0.length c0], rfl, ⟨A0, c0, rfl, hc0, Kd.C_below h0 hb⟩, fun i u hi => ?_⟩
    match i, hi with
    | 0, hi => obtain rfl := Option.some.inj hi; exact (World.cell?_alloc_new _ _ _ _).trans rfl
  | 1, hj =>
    obtain rfl := Option.some.inj hj
    refine ⟨[.slice A1 l1.length c1], rfl, ⟨A1, c1, rfl, hc1, Kd.C_below h1 hb⟩, fun i u hi => ?_⟩
    match i, hi with
    | 0, hi => obtain rfl := Option.some.inj hi; exact (World.cell?_alloc_new _ _ _ _).trans rfl
theorem rows1_C {w : World} {A0 : Option Addr} {c0 : Nat} {l0 : List S57} (h0 : Kd.C k57 w A0 l0.length l0) (hc0 : l0.length ≤ c0) (e : TypeId) :
    Kd.C (Kd.slice 57 k57) (w.alloc (.cells #[.slice A0 l0.length c0] e)) (some ⟨w.heap.size, 0, none⟩) [l0].length [l0] := by
  have hb : Below w.heap.size w (w.alloc (.cells #[.slice A0 l0.length c0] e)) := (Below.refl _ _).alloc (Nat.le_refl _) _
  refine ⟨rfl, by simp, fun _ => ⟨_, rfl, fun j p hj => ?_⟩⟩
  match j, hj with
  | 0, hj =>
    obtain rfl := Option.some.inj hj
    refine ⟨[.slice A0 l0.length c0], rfl, ⟨A0, c0, rfl, hc0, Kd.C_below h0 hb⟩, fun i u hi => ?_⟩
    match i, hi with
    | 0, hi => obtain rfl := Option.some.inj hi; exact (World.cell?_alloc_new _ _ _ _).trans rfl
def quant_Plus.f (k : Nat) (l0 l1 : List S57) : Option (List S57 × Int) :=
  (quant_valid.f k l0 l1).bind fun t => if t = true then (if sumOK [l0, l1] = true then some (quant_summed.f [l0, l1]) else none) else some ([], 31)
theorem quant_Plus.mono : ∀ a0 a1 k, LeO (quant_Plus.f k a0 a1) (quant_Plus.f (k + 1) a0 a1) := by
  intro a0 a1 k
  unfold quant_Plus.f
  exact LeO.bind (quant_valid.mono _ _ _) (fun _ => LeO.refl _)
set_option maxHeartbeats 4000000 in
set_option maxRecDepth 100000 in
theorem quant_Plus.calls (k : Nat) (A0 : Option Addr) (c0 : Nat) (l0 : List S57) (A1 : Option Addr) (c1 : Nat) (l1 : List S57) (r1 : List S57) (r2 : Int) (w : World) (hr0 : Kd.C k57 w A0 l0.length l0) (hc0 : l0.length ≤ c0) (hr1 : Kd.C k57 w A1 l1.length l1) (hc1 : l1.length ≤ c1) (h : quant_Plus.f k l0 l1 = some (r1, r2)) (hG : Glob w) :
    Calls Tryz.prog 41 #[.slice A0 l0.length c0, .slice A1 l1.length c1] w fun e w' => ∃ v0_ : Value, e = .returned (.tuple #[v0_, .int .i64 r2]) ∧ Kd.R k57 57 w' w.heap.size (fun _ => True) v0_ r1 ∧ Below w.heap.size w w' := by
  unfold quant_Plus.f at h
  obtain ⟨t, ht, h2⟩ := Option.bind_eq_some_iff.mp h
  clear h
  rename _ => h
  have HV := Lib.hid (quant_valid.calls k A0 c0 l0 A1 c1 l1 t w hr0 hc0 hr1 hc1 ht hG)
  have HR0 := Aside0.mk hr0
  have HR1 := Aside0.mk hr1
  have HC0 := Aside0.mk hc0
  have HC1 := Aside0.mk hc1
  have hl0 := hr0.2.1
  have hl1 := hr1.2.1
  clear hr0 hr1 hc0 hc1 ht
  cases t with
  | false =>
    rw [if_neg Bool.false_ne_true] at h
    have h1 := Option.some.inj h
    obtain ⟨rfl, rfl⟩ := Prod.mk.inj h1
    clear h h1
    go_enter Tryz.func41, Tryz.ntmps41
    go_wp2_with (go_at_call 73; refine HV.out.mono ?_; rintro e w1 ⟨rfl, hb⟩; have HB := Aside0.mk hb; clear hb)
    go_ret2
    exact ⟨_, rfl, Kd.R_nil _ _ _ _ _, HB.out⟩
  | true =>
    rw [if_pos rfl] at h
    cases hok : sumOK [l0, l1] with
    | false => rw [hok, if_neg Bool.false_ne_true] at h; cases h
    | true =>
      rw [hok, if_pos rfl] at h
      have HS := Lib.hid (Option.some.inj h)
      have HOK := Lib.hid hok
      clear h hok
      go_enter Tryz.func41, Tryz.ntmps41
      go_wp2_with (first
        | (go_at_call 73; refine HV.out.mono ?_; rintro e w1 ⟨rfl, hb⟩; have HB := Aside0.mk hb; have HQ0 := Aside0.mk (Kd.C_below HR0.out hb); have HQ1 := Aside0.mk (Kd.C_below HR1.out hb); clear hb)
        | (go_at_call 72; go_loud (refine (quant_summed.calls (some ⟨w1.heap.size, 0, none⟩) 2 [l0, l1] r1 r2 _ (rows2_C HQ0.out HC0.out HQ1.out HC1.out _) (Nat.le_refl 2) (sumOK_names HOK.out) (sumOK_len HOK.out) HS.out).mono ?_); rintro e w2 ⟨v2, rfl, ho, hb2⟩; have HO := Aside0.mk (Kd.R_lower ho (HB.out.alloc HB.out.size _).size); have HB2 := Aside0.mk (below_step (HB.out.alloc HB.out.size _) hb2); clear ho hb2))
      go_ret2
      exact ⟨_, rfl, HO.out, HB2.out⟩
def normGo (k : Nat) : List S57 → Option Bool
  | [] => some true
  | a :: r => (quant_resource.f k a.f0).bind fun t => if t = true then (if a.f1 < 0 then some false else normGo k r) else some false
theorem normGo_mono (k : Nat) : ∀ l, LeO (normGo k l) (normGo (k + 1) l)
  | [] => LeO.refl _
  | a :: r => by
    unfold normGo
    exact LeO.bind (quant_resource.mono _ _) (fun _ => LeO.ite (LeO.ite (LeO.refl _) (normGo_mono k r)) (LeO.refl _))
def quant_Normal.f (k : Nat) (l0 : List S57) : Option (List S57 × Int) :=
  (normGo k l0).bind fun t => if t = true then (if sumOK [l0] = true then some (quant_summed.f [l0]) else none) else some ([], 31)
theorem quant_Normal.mono : ∀ a0 k, LeO (quant_Normal.f k a0) (quant_Normal.f (k + 1) a0) := by
  intro a0 k
  unfold quant_Normal.f
  exact LeO.bind (normGo_mono _ _) (fun _ => LeO.refl _)
set_option maxHeartbeats 4000000 in
set_option maxRecDepth 100000 in
theorem quant_Normal.calls (k : Nat) (A0 : Option Addr) (c0 : Nat) (l0 : List S57) (r1 : List S57) (r2 : Int) (w : World) (hr0 : Kd.C k57 w A0 l0.length l0) (hc0 : l0.length ≤ c0) (h : quant_Normal.f k l0 = some (r1, r2)) (hG : Glob w) :
    Calls Tryz.prog 36 #[.slice A0 l0.length c0] w fun e w' => ∃ v0_ : Value, e = .returned (.tuple #[v0_, .int .i64 r2]) ∧ Kd.R k57 57 w' w.heap.size (fun _ => True) v0_ r1 ∧ Below w.heap.size w w' := by
  have hu57 := Tryz.underlying57
  unfold quant_Normal.f at h
  obtain ⟨t, ht, h2⟩ := Option.bind_eq_some_iff.mp h
  clear h
  rename _ => h
  have HR0 := Aside0.mk hr0
  have HC0 := Aside0.mk hc0
  have hl0 := hr0.2.1
  have HT := Lib.hid ht
  have H := Lib.hid h
  have HG := Aside0.mk hG
  have HB0 := Aside0.mk (Below.refl w.heap.size w)
  clear hr0 hc0 ht h hG
  go_enter Tryz.func36, Tryz.ntmps36
  go_wp2
  go_loopg [5, 8] l0.length (fun g v5 v8 wr => ∃ i : Nat, v8 = .int .i64 i ∧ i ≤ l0.length ∧ l0.length ≤ i + g ∧ Aside0 (normGo k (l0.drop i) = some t) ∧ Aside0 (Below w.heap.size w wr))
  case atStart => exact ⟨0, rfl, by omega, by omega, ⟨HT.out⟩, HB0⟩
  case round =>
    clear HB0 HT
    obtain ⟨i, rfl, hin, hig, HT, HB⟩ := hrel
    by_cases hlt : i < l0.length
    · cases gk with
      | zero => omega
      | succ g =>
        obtain ⟨ad, eA, hx0, hx1⟩ := at_T57 HR0.out (i : Int) (by omega) (by omega)
        cases eA
        rw [Int.toNat_natCast] at hx0 hx1
        replace hx0 := (HB.out.cell (World.block_lt_of_cell? w _ hx0)).trans hx0
        replace hx1 := (HB.out.cell (World.block_lt_of_cell? w _ hx1)).trans hx1
        have hgo := HT.out
        rw [item_rest l0 i hlt, normGo] at hgo
        obtain ⟨b, hb, hgo2⟩ := Option.bind_eq_some_iff.mp hgo
        clear hgo
        generalize (rd_T57 l0 (i : Int)).f0 = xs at *
        generalize (rd_T57 l0 (i : Int)).f1 = xv at *
        have HRES := Lib.hid hb
        have HGO := Lib.hid hgo2
        have HB2 := Aside0.mk (HB.out.alloc HB.out.size (.cells #[.string xs, .int .i64 xv] 57))
        have HG2 := Aside0.mk (Glob.below HG.out HB2.out)
        clear hb hgo2 HT
        cases b with
        | false =>
          have hgo := HGO.out
          rw [if_neg Bool.false_ne_true] at hgo
          obtain rfl := Option.some.inj hgo
          have h1 := H.out
          rw [if_neg Bool.false_ne_true] at h1
          obtain ⟨e1, e2⟩ := Prod.mk.inj (Option.some.inj h1)
          have E1 := Lib.hid e1
          have E2 := Lib.hid e2
          clear hgo h1 e1 e2
          go_wp2_with (go_at_call 71; refine (quant_resource.calls k xs false _ HRES.out HG2.out).mono ?_; rintro e w4 ⟨rfl, hb4⟩; have HB4 := Aside0.mk (below_step HB2.out hb4); clear hb4)
          go_ret2
          refine ⟨.slice none 0 0, ?_, by rw [← E1.out]; exact Kd.R_nil _ _ _ _ _, HB4.out⟩
          rw [← E2.out]
          try rfl
        | true =>
          by_cases hneg : xv < 0
          · have hgo := HGO.out
            rw [if_pos rfl, if_pos hneg] at hgo
            obtain rfl := Option.some.inj hgo
            have h1 := H.out
            rw [if_neg Bool.false_ne_true] at h1
            obtain ⟨e1, e2⟩ := Prod.mk.inj (Option.some.inj h1)
            have E1 := Lib.hid e1
            have E2 := Lib.hid e2
            have dneg : decide (xv < 0) = true := decide_eq_true hneg
            clear hgo h1 e1 e2 hneg
            go_wp2_with (go_at_call 71; refine (quant_resource.calls k xs true _ HRES.out HG2.out).mono ?_; rintro e w4 ⟨rfl, hb4⟩; have HB4 := Aside0.mk (below_step HB2.out hb4); have BK := Aside0.mk (blk_below (blk_new wr (.cells #[.string xs, .int .i64 xv] 57)) hb4); have hc1 := (blk_cell BK.out 1).trans rfl; clear hb4)
            go_ret2
            refine ⟨.slice none 0 0, ?_, by rw [← E1.out]; exact Kd.R_nil _ _ _ _ _, HB4.out⟩
            rw [← E2.out]
            try rfl
          · have hgo := HGO.out
            rw [if_pos rfl, if_neg hneg] at hgo
            have HN := Lib.hid hgo
            have dneg : decide (xv < 0) = false := decide_eq_false hneg
            clear hgo hneg
            go_wp2_with (go_at_call 71; refine (quant_resource.calls k xs true _ HRES.out HG2.out).mono ?_; rintro e w4 ⟨rfl, hb4⟩; have HB4 := Aside0.mk (below_step HB2.out hb4); have BK := Aside0.mk (blk_below (blk_new wr (.cells #[.string xs, .int .i64 xv] 57)) hb4); have hc1 := (blk_cell BK.out 1).trans rfl; clear hb4)
            go_roundg g
            case measure => omega
            case rel => exact ⟨i + 1, by go_num, by omega, by omega, ⟨HN.out⟩, HB4⟩
    · obtain rfl : i = l0.length := by omega
      have hgo := HT.out
      rw [List.drop_length, normGo] at hgo
      obtain rfl := Option.some.inj hgo
      have h1 := H.out
      rw [if_pos rfl] at h1
      cases hok : sumOK [l0] with
      | false => rw [hok, if_neg Bool.false_ne_true] at h1; cases h1
      | true =>
        rw [hok, if_pos rfl] at h1
        have HS := Lib.hid (Option.some.inj h1)
        have HOK := Lib.hid hok
        have HQ0 := Aside0.mk (Kd.C_below HR0.out HB.out)
        clear h1 hok hgo
        go_wp2_with (go_at_call 72; refine (quant_summed.calls (some ⟨wr.heap.size, 0, none⟩) 1 [l0] r1 r2 _ (rows1_C HQ0.out HC0.out _) (Nat.le_refl 1) (sumOK_names HOK.out) (sumOK_len HOK.out) HS.out).mono ?_; rintro e w2 ⟨v2, rfl, ho, hb2⟩; have HO := Aside0.mk (Kd.R_lower ho (HB.out.alloc HB.out.size _).size); have HB2 := Aside0.mk (below_step (HB.out.alloc HB.out.size _) hb2); clear ho hb2)
        go_ret2
        exact ⟨_, rfl, HO.out, HB2.out⟩
end Go.Proofs.YtejgbdclhlolkaaGreatDoor.Q
namespace Go.Proofs.YtejgbdclhlolkaaGreatDoor.Q
open Go.RowKit Go.Proofs.YtejgbdclhlolkaaGreatDoorW.PrintWords Go.Proofs.YtejgbdclhlolkaaGreatDoorW.PrintLast Go.Proofs.YtejgbdclhlolkaaGreatDoorW.PrintMore
attribute [local go_sem] max2_int min2_int max_two min_two max_three min_three max_four min_four   -- for this text's walks alone
set_option linter.unusedVariables false
set_option linter.unusedSimpArgs false
attribute [local go_sem high] eqA57
def bursarlaw03_known.f (k : Nat)  : Option (Bool) := (quant_Parse.f k (⟨#[49, 46, 53, 75, 105]⟩ : ByteArray)).bind fun bt101 => ((quant_Parse.f k (⟨#[48, 46, 48, 48, 48, 49]⟩ : ByteArray)).bind fun bt103 => ((quant_Parse.f k (⟨#[49, 75]⟩ : ByteArray)).bind fun bt105 => ((quant_Plus.f k (([(⟨(⟨#[99, 112, 117]⟩ : ByteArray), 1⟩ : S57), (⟨(⟨#[109, 101, 109, 111, 114, 121]⟩ : ByteArray), 2⟩ : S57)] : List (S57))) (([(⟨(⟨#[109, 101, 109, 111, 114, 121]⟩ : ByteArray), 3⟩ : S57)] : List (S57)))).bind fun bt113 => (if bt101.1 = 1536000 then (if bt101.2 = 0 then (if bt103.1 = 1 then (if bt103.2 = 0 then (if bt105.2 = 30 then (if bt113.2 = 0 then (if (bt113.1.length : Int) = 2 then (if 1 < (bt113.1.length : Int) then (if ((((rd_T57 bt113.1 1).f0).toList) == ([109, 101, 109, 111, 114, 121] : List UInt8) && (((rd_T57 bt113.1 1).f1) == 5)) = true then ((quant_Print.f k 1024000).bind fun t118 => (if t118.toList = ([49, 75, 105] : List UInt8) then ((quant_Print.f k 500).bind fun t119 => (some (t119.toList == ([53, 48, 48, 109] : List UInt8)))) else (none))) else (none)) else (none)) else (none)) else (none)) else (none)) else (none)) else (none)) else (none)) else (none)))))
theorem bursarlaw03_known.mono : ∀ k, LeO (bursarlaw03_known.f k ) (bursarlaw03_known.f (k + 1) ) := by
 intro  k
 unfold bursarlaw03_known.f
 repeat' first
  |(with_reducible exact quant_Parse.mono _ _)
  |(with_reducible exact quant_Plus.mono _ _ _)
  |(with_reducible exact quant_Print.mono _ _)
  |(with_reducible exact LeO.refl _)
  |(with_reducible exact LeO.none _)
  |(with_reducible refine LeO.ite ?_ ?_)
  |(with_reducible refine LeO.bind ?_ (fun _ => ?_))
  |exact quant_Parse.mono _ _
  |exact quant_Plus.mono _ _ _
  |exact quant_Print.mono _ _
  |exact LeO.none _
  |refine LeO.ite ?_ ?_
  |refine LeO.bind ?_ (fun _ => ?_)
set_option maxHeartbeats 8000000 in
set_option maxRecDepth 100000 in
theorem bursarlaw03_known.calls (k : Nat)  (r : Bool) (w : World) (h : bursarlaw03_known.f k  = some r) (hG : Glob w) :
  Calls Tryz.prog 16 #[] w fun e w' => e = .returned (.bool r) ∧ Below w.heap.size w w':=by
 have hu57:=Tryz.underlying57
 have HB:=Aside0.mk (Below.refl w.heap.size w)
 have H : ((quant_Parse.f k (⟨#[49,46,53,75,105]⟩ : ByteArray)).bind fun bt101 => ((quant_Parse.f k (⟨#[48,46,48,48,48,49]⟩ : ByteArray)).bind fun bt103 => ((quant_Parse.f k (⟨#[49,75]⟩ : ByteArray)).bind fun bt105 => ((quant_Plus.f k (([(⟨(⟨#[99,112,117]⟩ : ByteArray),1⟩ : S57),(⟨(⟨#[109,101,109,111,114,121]⟩ : ByteArray),2⟩ : S57)] : List (S57))) (([(⟨(⟨#[109,101,109,111,114,121]⟩ : ByteArray),3⟩ : S57)] : List (S57)))).bind fun bt113 => (if bt101.1 = 1536000 then (if bt101.2 = 0 then (if bt103.1 = 1 then (if bt103.2 = 0 then (if bt105.2 = 30 then (if bt113.2 = 0 then (if (bt113.1.length : Int) = 2 then (if 1 < (bt113.1.length : Int) then (if ((((rd_T57 bt113.1 1).f0).toList) == ([109,101,109,111,114,121] : List UInt8) && (((rd_T57 bt113.1 1).f1) == 5)) = true then ((quant_Print.f k 1024000).bind fun t118 => (if t118.toList = ([49,75,105] : List UInt8) then ((quant_Print.f k 500).bind fun t119 => (some (t119.toList == ([53,48,48,109] : List UInt8)))) else (none))) else (none)) else (none)) else (none)) else (none)) else (none)) else (none)) else (none)) else (none)) else (none)))))) = some r:=h
 clear h
 replace H:=Option.bind_eq_some_iff.mp H
 obtain ⟨⟨t101,t102⟩,A10,H⟩:=H
 replace H : ((quant_Parse.f k (⟨#[48,46,48,48,48,49]⟩ : ByteArray)).bind fun bt103 => ((quant_Parse.f k (⟨#[49,75]⟩ : ByteArray)).bind fun bt105 => ((quant_Plus.f k (([(⟨(⟨#[99,112,117]⟩ : ByteArray),1⟩ : S57),(⟨(⟨#[109,101,109,111,114,121]⟩ : ByteArray),2⟩ : S57)] : List (S57))) (([(⟨(⟨#[109,101,109,111,114,121]⟩ : ByteArray),3⟩ : S57)] : List (S57)))).bind fun bt113 => (if t101 = 1536000 then (if t102 = 0 then (if bt103.1 = 1 then (if bt103.2 = 0 then (if bt105.2 = 30 then (if bt113.2 = 0 then (if (bt113.1.length : Int) = 2 then (if 1 < (bt113.1.length : Int) then (if ((((rd_T57 bt113.1 1).f0).toList) == ([109,101,109,111,114,121] : List UInt8) && (((rd_T57 bt113.1 1).f1) == 5)) = true then ((quant_Print.f k 1024000).bind fun t118 => (if t118.toList = ([49,75,105] : List UInt8) then ((quant_Print.f k 500).bind fun t119 => (some (t119.toList == ([53,48,48,109] : List UInt8)))) else (none))) else (none)) else (none)) else (none)) else (none)) else (none)) else (none)) else (none)) else (none)) else (none))))) = some r:=H
 have A1:=Aside0.mk A10
 clear A10
 replace H:=Option.bind_eq_some_iff.mp H
 obtain ⟨⟨t103,t104⟩,A20,H⟩:=H
 replace H : ((quant_Parse.f k (⟨#[49,75]⟩ : ByteArray)).bind fun bt105 => ((quant_Plus.f k (([(⟨(⟨#[99,112,117]⟩ : ByteArray),1⟩ : S57),(⟨(⟨#[109,101,109,111,114,121]⟩ : ByteArray),2⟩ : S57)] : List (S57))) (([(⟨(⟨#[109,101,109,111,114,121]⟩ : ByteArray),3⟩ : S57)] : List (S57)))).bind fun bt113 => (if t101 = 1536000 then (if t102 = 0 then (if t103 = 1 then (if t104 = 0 then (if bt105.2 = 30 then (if bt113.2 = 0 then (if (bt113.1.length : Int) = 2 then (if 1 < (bt113.1.length : Int) then (if ((((rd_T57 bt113.1 1).f0).toList) == ([109,101,109,111,114,121] : List UInt8) && (((rd_T57 bt113.1 1).f1) == 5)) = true then ((quant_Print.f k 1024000).bind fun t118 => (if t118.toList = ([49,75,105] : List UInt8) then ((quant_Print.f k 500).bind fun t119 => (some (t119.toList == ([53,48,48,109] : List UInt8)))) else (none))) else (none)) else (none)) else (none)) else (none)) else (none)) else (none)) else (none)) else (none)) else (none)))) = some r:=H
 have A2:=Aside0.mk A20
 clear A20
 replace H:=Option.bind_eq_some_iff.mp H
 obtain ⟨⟨t105,t106⟩,A30,H⟩:=H
 replace H : ((quant_Plus.f k (([(⟨(⟨#[99,112,117]⟩ : ByteArray),1⟩ : S57),(⟨(⟨#[109,101,109,111,114,121]⟩ : ByteArray),2⟩ : S57)] : List (S57))) (([(⟨(⟨#[109,101,109,111,114,121]⟩ : ByteArray),3⟩ : S57)] : List (S57)))).bind fun bt113 => (if t101 = 1536000 then (if t102 = 0 then (if t103 = 1 then (if t104 = 0 then (if t106 = 30 then (if bt113.2 = 0 then (if (bt113.1.length : Int) = 2 then (if 1 < (bt113.1.length : Int) then (if ((((rd_T57 bt113.1 1).f0).toList) == ([109,101,109,111,114,121] : List UInt8) && (((rd_T57 bt113.1 1).f1) == 5)) = true then ((quant_Print.f k 1024000).bind fun t118 => (if t118.toList = ([49,75,105] : List UInt8) then ((quant_Print.f k 500).bind fun t119 => (some (t119.toList == ([53,48,48,109] : List UInt8)))) else (none))) else (none)) else (none)) else (none)) else (none)) else (none)) else (none)) else (none)) else (none)) else (none))) = some r:=H
 have A3:=Aside0.mk A30
 clear A30
 obtain ⟨y107,hy107⟩ : ∃ y_ : List (S57),y_ = (([(⟨(⟨#[99,112,117]⟩ : ByteArray),1⟩ : S57),(⟨(⟨#[109,101,109,111,114,121]⟩ : ByteArray),2⟩ : S57)] : List (S57))):=⟨_,rfl⟩
 replace H : ((quant_Plus.f k y107 (([(⟨(⟨#[109,101,109,111,114,121]⟩ : ByteArray),3⟩ : S57)] : List (S57)))).bind fun bt113 => (if t101 = 1536000 then (if t102 = 0 then (if t103 = 1 then (if t104 = 0 then (if t106 = 30 then (if bt113.2 = 0 then (if (bt113.1.length : Int) = 2 then (if 1 < (bt113.1.length : Int) then (if ((((rd_T57 bt113.1 1).f0).toList) == ([109,101,109,111,114,121] : List UInt8) && (((rd_T57 bt113.1 1).f1) == 5)) = true then ((quant_Print.f k 1024000).bind fun t118 => (if t118.toList = ([49,75,105] : List UInt8) then ((quant_Print.f k 500).bind fun t119 => (some (t119.toList == ([53,48,48,109] : List UInt8)))) else (none))) else (none)) else (none)) else (none)) else (none)) else (none)) else (none)) else (none)) else (none)) else (none))) = some r:=by first|(rw [hy107];with_reducible exact H)|(have H2_:=(Option.bind_some _ _).symm.trans H;rw [hy107];with_reducible exact H2_)|(have H2_:=(Option.bind_some _ _).symm.trans H;with_reducible exact H2_)|with_reducible exact H|(rw [hy107];exact H)|exact H
 have Ny107:=Aside0.mk hy107
 clear hy107
 obtain ⟨y110,hy110⟩ : ∃ y_ : List (S57),y_ = (([(⟨(⟨#[109,101,109,111,114,121]⟩ : ByteArray),3⟩ : S57)] : List (S57))):=⟨_,rfl⟩
 replace H : ((quant_Plus.f k y107 y110).bind fun bt113 => (if t101 = 1536000 then (if t102 = 0 then (if t103 = 1 then (if t104 = 0 then (if t106 = 30 then (if bt113.2 = 0 then (if (bt113.1.length : Int) = 2 then (if 1 < (bt113.1.length : Int) then (if ((((rd_T57 bt113.1 1).f0).toList) == ([109,101,109,111,114,121] : List UInt8) && (((rd_T57 bt113.1 1).f1) == 5)) = true then ((quant_Print.f k 1024000).bind fun t118 => (if t118.toList = ([49,75,105] : List UInt8) then ((quant_Print.f k 500).bind fun t119 => (some (t119.toList == ([53,48,48,109] : List UInt8)))) else (none))) else (none)) else (none)) else (none)) else (none)) else (none)) else (none)) else (none)) else (none)) else (none))) = some r:=by first|(rw [hy110];with_reducible exact H)|(have H2_:=(Option.bind_some _ _).symm.trans H;rw [hy110];with_reducible exact H2_)|(have H2_:=(Option.bind_some _ _).symm.trans H;with_reducible exact H2_)|with_reducible exact H|(rw [hy110];exact H)|exact H
 have Ny110:=Aside0.mk hy110
 clear hy110
 replace H:=Option.bind_eq_some_iff.mp H
 obtain ⟨⟨t113,t114⟩,A40,H⟩:=H
 replace H : (if t101 = 1536000 then (if t102 = 0 then (if t103 = 1 then (if t104 = 0 then (if t106 = 30 then (if t114 = 0 then (if (t113.length : Int) = 2 then (if 1 < (t113.length : Int) then (if ((((rd_T57 t113 1).f0).toList) == ([109,101,109,111,114,121] : List UInt8) && (((rd_T57 t113 1).f1) == 5)) = true then ((quant_Print.f k 1024000).bind fun t118 => (if t118.toList = ([49,75,105] : List UInt8) then ((quant_Print.f k 500).bind fun t119 => (some (t119.toList == ([53,48,48,109] : List UInt8)))) else (none))) else (none)) else (none)) else (none)) else (none)) else (none)) else (none)) else (none)) else (none)) else (none)) = some r:=H
 have A4:=Aside0.mk A40
 clear A40
 by_cases c5 : t101 = 1536000
 rotate_left
 ·rw [if_neg c5] at H
  exact absurd H (by simp)
 rw [if_pos c5] at H
 have c5b0 : (t101 == 1536000) = true:=beq_iff_eq.mpr c5
 have c5b1 : (t101 != 1536000) = false:=bne_eq_false_iff_eq.mpr c5
 clear c5
 by_cases c6 : t102 = 0
 rotate_left
 ·rw [if_neg c6] at H
  exact absurd H (by simp)
 rw [if_pos c6] at H
 have c6b0 : (t102 == 0) = true:=beq_iff_eq.mpr c6
 have c6b1 : (t102 != 0) = false:=bne_eq_false_iff_eq.mpr c6
 clear c6
 by_cases c7 : t103 = 1
 rotate_left
 ·rw [if_neg c7] at H
  exact absurd H (by simp)
 rw [if_pos c7] at H
 have c7b0 : (t103 == 1) = true:=beq_iff_eq.mpr c7
 have c7b1 : (t103 != 1) = false:=bne_eq_false_iff_eq.mpr c7
 clear c7
 by_cases c8 : t104 = 0
 rotate_left
 ·rw [if_neg c8] at H
  exact absurd H (by simp)
 rw [if_pos c8] at H
 have c8b0 : (t104 == 0) = true:=beq_iff_eq.mpr c8
 have c8b1 : (t104 != 0) = false:=bne_eq_false_iff_eq.mpr c8
 clear c8
 by_cases c9 : t106 = 30
 rotate_left
 ·rw [if_neg c9] at H
  exact absurd H (by simp)
 rw [if_pos c9] at H
 have c9b0 : (t106 == 30) = true:=beq_iff_eq.mpr c9
 have c9b1 : (t106 != 30) = false:=bne_eq_false_iff_eq.mpr c9
 clear c9
 by_cases c10 : t114 = 0
 rotate_left
 ·rw [if_neg c10] at H
  exact absurd H (by simp)
 rw [if_pos c10] at H
 have c10b0 : (t114 == 0) = true:=beq_iff_eq.mpr c10
 have c10b1 : (t114 != 0) = false:=bne_eq_false_iff_eq.mpr c10
 clear c10
 by_cases c11 : (t113.length : Int) = 2
 rotate_left
 ·rw [if_neg c11] at H
  exact absurd H (by simp)
 rw [if_pos c11] at H
 have c11b0 : ((t113.length : Int) == 2) = true:=beq_iff_eq.mpr c11
 have c11b1 : ((t113.length : Int) != 2) = false:=bne_eq_false_iff_eq.mpr c11
 clear c11
 by_cases c12 : 1 < (t113.length : Int)
 rotate_left
 ·rw [if_neg c12] at H
  exact absurd H (by simp)
 rw [if_pos c12] at H
 have c12b0 : decide (1 < (t113.length : Int)) = true:=decide_eq_true c12
 have c12b1 : decide (1 < t113.length) = true:=decide_eq_true (by omega)
 clear c12
 by_cases c13 : ((((rd_T57 t113 1).f0).toList) == ([109,101,109,111,114,121] : List UInt8) && (((rd_T57 t113 1).f1) == 5)) = true
 rotate_left
 ·rw [if_neg c13] at H
  exact absurd H (by simp)
 rw [if_pos c13] at H
 have c13b0 : ((((rd_T57 t113 1).f0).toList) == ([109,101,109,111,114,121] : List UInt8) && (((rd_T57 t113 1).f1) == 5)) = true:=c13
 (try (have c13b1 : decide ((((rd_T57 t113 1).f0).toList) = ([109,101,109,111,114,121] : List UInt8) && (((rd_T57 t113 1).f1) == 5)) = true:=by simpa using c13))
 (try (have c13b2 : ((((rd_T57 t113 1).f0).toList) == ([109,101,109,111,114,121] : List UInt8) && (((rd_T57 t113 1).f1) == 5)) = true:=by simpa using c13))
 clear c13
 replace H:=Option.bind_eq_some_iff.mp H
 obtain ⟨t118,A140,H⟩:=H
 replace H : (if t118.toList = ([49,75,105] : List UInt8) then ((quant_Print.f k 500).bind fun t119 => (some (t119.toList == ([53,48,48,109] : List UInt8)))) else (none)) = some r:=H
 have A14:=Aside0.mk A140
 clear A140
 by_cases c15 : t118.toList = ([49,75,105] : List UInt8)
 rotate_left
 ·rw [if_neg c15] at H
  exact absurd H (by simp)
 rw [if_pos c15] at H
 have c15b0 : (t118.toList == ([49,75,105] : List UInt8)) = true:=beq_iff_eq.mpr c15
 have c15b1 : (t118.toList != ([49,75,105] : List UInt8)) = false:=bne_eq_false_iff_eq.mpr c15
 clear c15
 replace H:=Option.bind_eq_some_iff.mp H
 obtain ⟨t119,A160,H⟩:=H
 replace H : (some (t119.toList == ([53,48,48,109] : List UInt8))) = some r:=H
 have A16:=Aside0.mk A160
 clear A160
 obtain rfl:=Option.some.inj H
 go_enter Tryz.func16,Tryz.ntmps16
 go_wp2_with (first|((with_reducible refine gate_callee (f:=17) rfl ?_);refine goesL_ (some 10) rfl rfl Tryz.func17 (by kernel_rfl) rfl #[.string (⟨#[49,46,53,75,105]⟩ : ByteArray)] rfl (by (try simp only [List.map_toArray,List.map_cons,List.map_nil]);first|done|rfl|(simp only [List.length_drop,List.length_take];rfl)) ?_;(with_reducible refine (quant_Parse.calls k (⟨#[49,46,53,75,105]⟩ : ByteArray) t101 t102 _ A1.out (Glob.below hG (by repeat (first|(with_reducible first|exact HB.out|apply below_alloc|apply pw_below_drewN|apply below_drew1)|exact HB.out)))).mono ?_);rintro e w17 ⟨rfl,hb⟩;refine ⟨_,rfl,?_⟩;have n0_:=Aside0.mk (below_step (by repeat (first|(with_reducible first|exact HB.out|apply below_alloc|apply pw_below_drewN|apply below_drew1)|exact HB.out)) hb);clear HB;have HB:=n0_;clear n0_;(try clear hb);(try clear hb2);(try clear hk);(try clear hi))|((with_reducible refine gate_callee (f:=17) rfl ?_);refine goesL_ (some 14) rfl rfl Tryz.func17 (by kernel_rfl) rfl #[.string (⟨#[48,46,48,48,48,49]⟩ : ByteArray)] rfl (by (try simp only [List.map_toArray,List.map_cons,List.map_nil]);first|done|rfl|(simp only [List.length_drop,List.length_take];rfl)) ?_;(with_reducible refine (quant_Parse.calls k (⟨#[48,46,48,48,48,49]⟩ : ByteArray) t103 t104 _ A2.out (Glob.below hG (by repeat (first|(with_reducible first|exact HB.out|apply below_alloc|apply pw_below_drewN|apply below_drew1)|exact HB.out)))).mono ?_);rintro e w18 ⟨rfl,hb⟩;refine ⟨_,rfl,?_⟩;have n0_:=Aside0.mk (below_step (by repeat (first|(with_reducible first|exact HB.out|apply below_alloc|apply pw_below_drewN|apply below_drew1)|exact HB.out)) hb);clear HB;have HB:=n0_;clear n0_;(try clear hb);(try clear hb2);(try clear hk);(try clear hi))|((with_reducible refine gate_callee (f:=17) rfl ?_);refine goesL_ (some 18) rfl rfl Tryz.func17 (by kernel_rfl) rfl #[.string (⟨#[49,75]⟩ : ByteArray)] rfl (by (try simp only [List.map_toArray,List.map_cons,List.map_nil]);first|done|rfl|(simp only [List.length_drop,List.length_take];rfl)) ?_;(with_reducible refine (quant_Parse.calls k (⟨#[49,75]⟩ : ByteArray) t105 t106 _ A3.out (Glob.below hG (by repeat (first|(with_reducible first|exact HB.out|apply below_alloc|apply pw_below_drewN|apply below_drew1)|exact HB.out)))).mono ?_);rintro e w19 ⟨rfl,hb⟩;refine ⟨_,rfl,?_⟩;have n0_:=Aside0.mk (below_step (by repeat (first|(with_reducible first|exact HB.out|apply below_alloc|apply pw_below_drewN|apply below_drew1)|exact HB.out)) hb);clear HB;have HB:=n0_;clear n0_;(try clear hb);(try clear hb2);(try clear hk);(try clear hi))|((with_reducible refine gate_dst (N:=24) rfl ?_);(try (refine gate_guard (by rfl) ?_;dsimp only));refine Kd.R_lit k57 _ 57 ?hg (N:=24) ?hd (xs:=([(⟨(⟨#[99,112,117]⟩ : ByteArray),1⟩ : S57),(⟨(⟨#[109,101,109,111,114,121]⟩ : ByteArray),2⟩ : S57)] : List (S57))) (inner:=[.string (⟨#[99,112,117]⟩ : ByteArray),.int .i64 1,.string (⟨#[109,101,109,111,114,121]⟩ : ByteArray),.int .i64 2]) (ok:=fun _ => True) (okp:=fun _ => True) ?hr ?hp (fun _ hk => hk) trivial (Below.refl _ _) (Nat.le_refl _) (by simp) ?_;(case hd => rfl);(case hg => rfl);(case hr => first|(go_simp;done)|(go_simp;rfl));(case hp => exact (Reps.c2 (show Kd.M k57 _ _ _ (⟨(⟨#[99,112,117]⟩ : ByteArray),1⟩ : S57) [.string (⟨#[99,112,117]⟩ : ByteArray),.int .i64 1] from (k57_mkM _ _ _ (⟨(⟨#[99,112,117]⟩ : ByteArray),1⟩ : S57) )) (Reps.c2 (show Kd.M k57 _ _ _ (⟨(⟨#[109,101,109,111,114,121]⟩ : ByteArray),2⟩ : S57) [.string (⟨#[109,101,109,111,114,121]⟩ : ByteArray),.int .i64 2] from (k57_mkM _ _ _ (⟨(⟨#[109,101,109,111,114,121]⟩ : ByteArray),2⟩ : S57) )) (Reps.none _ _))));intro v108 w20 ho21 hb hg_ hnew_;clear hg_ hnew_;(first|rw [← Ny107.out] at ho21|(simp only [Int.reduceToNat] at ho21;rw [← Ny107.out] at ho21));have n0_:=Aside0.mk (Kd.R_lower ho21 (below_size (by repeat (first|(with_reducible first|exact HB.out|apply below_alloc|apply pw_below_drewN|apply below_drew1)|exact HB.out))));have n1_:=Aside0.mk (below_step (by repeat (first|(with_reducible first|exact HB.out|apply below_alloc|apply pw_below_drewN|apply below_drew1)|exact HB.out)) hb);clear HB;have HO109:=n0_;have HB:=n1_;clear n0_ n1_;clear hb ho21)|((with_reducible refine gate_dst (N:=26) rfl ?_);(try (refine gate_guard (by rfl) ?_;dsimp only));refine Kd.R_lit k57 _ 57 ?hg (N:=26) ?hd (xs:=([(⟨(⟨#[109,101,109,111,114,121]⟩ : ByteArray),3⟩ : S57)] : List (S57))) (inner:=[.string (⟨#[109,101,109,111,114,121]⟩ : ByteArray),.int .i64 3]) (ok:=fun _ => True) (okp:=fun _ => True) ?hr ?hp (fun _ hk => hk) trivial (Below.refl _ _) (Nat.le_refl _) (by simp) ?_;(case hd => rfl);(case hg => rfl);(case hr => first|(go_simp;done)|(go_simp;rfl));(case hp => exact (Reps.c2 (show Kd.M k57 _ _ _ (⟨(⟨#[109,101,109,111,114,121]⟩ : ByteArray),3⟩ : S57) [.string (⟨#[109,101,109,111,114,121]⟩ : ByteArray),.int .i64 3] from (k57_mkM _ _ _ (⟨(⟨#[109,101,109,111,114,121]⟩ : ByteArray),3⟩ : S57) )) (Reps.none _ _)));intro v111 w22 ho23 hb hg_ hnew_;clear hg_ hnew_;(first|rw [← Ny110.out] at ho23|(simp only [Int.reduceToNat] at ho23;rw [← Ny110.out] at ho23));have n0_:=Aside0.mk (Kd.R_elder' (by (with_reducible repeat (first|apply Kd.R_alloc|apply Kd.R_drewN|apply Kd.R_drew));exact HO109.out) (Kd.R_base ho23) hb);have n1_:=Aside0.mk (Kd.R_lower (Kd.R_new' ho23 (Kd.R_lt (by (with_reducible repeat (first|apply Kd.R_alloc|apply Kd.R_drewN|apply Kd.R_drew));exact HO109.out))) (below_size (by repeat (first|(with_reducible first|exact HB.out|apply below_alloc|apply pw_below_drewN|apply below_drew1)|exact HB.out))));have n2_:=Aside0.mk (below_step (by repeat (first|(with_reducible first|exact HB.out|apply below_alloc|apply pw_below_drewN|apply below_drew1)|exact HB.out)) hb);clear HO109;clear HB;have HO109:=n0_;have HO112:=n1_;have HB:=n2_;clear n0_ n1_ n2_;clear hb ho23;obtain ⟨Ao24,co24,eo24⟩:=Kd.R_slice HO109.out;subst eo24;obtain ⟨Ao25,co25,eo25⟩:=Kd.R_slice HO112.out;subst eo25)|((with_reducible refine gate_callee (f:=41) rfl ?_);refine goesL_ (some 27) rfl rfl Tryz.func41 (by kernel_rfl) rfl #[.slice Ao24 y107.length co24,.slice Ao25 y110.length co25] rfl (by (try simp only [List.map_toArray,List.map_cons,List.map_nil]);first|done|rfl|(simp only [List.length_drop,List.length_take];rfl)) ?_;(with_reducible refine (quant_Plus.calls k _ _ y107 _ _ y110 t113 t114 _ ?side1 ?side2 ?side3 ?side4 A4.out (Glob.below hG (by repeat (first|(with_reducible first|exact HB.out|apply below_alloc|apply pw_below_drewN|apply below_drew1)|exact HB.out)))).mono ?_);(case side1 => repeat (first|exact (Kd.R_reads' HO109.out).2.2|(with_reducible refine Kd.C_alloc ?_ _)|(with_reducible refine Kd.C_drewN ?_ _)|(with_reducible refine Kd.C_drew ?_)));(case side2 => exact (Kd.R_reads' HO109.out).2.1);(case side3 => repeat (first|exact (Kd.R_reads' HO112.out).2.2|(with_reducible refine Kd.C_alloc ?_ _)|(with_reducible refine Kd.C_drewN ?_ _)|(with_reducible refine Kd.C_drew ?_)));(case side4 => exact (Kd.R_reads' HO112.out).2.1);rintro e w26 ⟨v115,rfl,ho0,hb⟩;refine ⟨_,rfl,?_⟩;have n0_:=Aside0.mk (Kd.R_elder' (by (with_reducible repeat (first|apply Kd.R_alloc|apply Kd.R_drewN|apply Kd.R_drew));exact HO109.out) (Kd.R_base ho0) hb);have n1_:=Aside0.mk (Kd.R_elder' (by (with_reducible repeat (first|apply Kd.R_alloc|apply Kd.R_drewN|apply Kd.R_drew));exact HO112.out) (Kd.R_base ho0) hb);have n2_:=Aside0.mk (Kd.R_lower (Kd.R_new' (Kd.R_new' ho0 (Kd.R_lt (by (with_reducible repeat (first|apply Kd.R_alloc|apply Kd.R_drewN|apply Kd.R_drew));exact HO109.out))) (Kd.R_lt (by (with_reducible repeat (first|apply Kd.R_alloc|apply Kd.R_drewN|apply Kd.R_drew));exact HO112.out))) (below_size (by repeat (first|(with_reducible first|exact HB.out|apply below_alloc|apply pw_below_drewN|apply below_drew1)|exact HB.out))));have n3_:=Aside0.mk (below_step (by repeat (first|(with_reducible first|exact HB.out|apply below_alloc|apply pw_below_drewN|apply below_drew1)|exact HB.out)) hb);clear HO109;clear HO112;clear HB;have HO109:=n0_;have HO112:=n1_;have HO116:=n2_;have HB:=n3_;clear n0_ n1_ n2_ n3_;(try clear hb);(try clear hb2);(try clear hk);(try clear hi);(try clear ho0);obtain ⟨Ao27,co27,eo27⟩:=Kd.R_slice HO116.out;subst eo27;have p117 : 0 ≤ (1 : Int):=(by omega);have q117 : 1 < (t113.length : Int):=of_decide_eq_true (by first|(with_reducible assumption)|assumption);obtain ⟨ad117,e117,hx117_0,hx117_1⟩:=at_T57 (Kd.R_reads' HO116.out).2.2 1 p117 q117;cases e117;(try simp only [show (1 : Int).toNat = 1 from rfl,Nat.reduceMul,Nat.reduceEqDiff,Go.Addr.add,↓reduceIte] at hx117_0);(try simp only [show (1 : Int).toNat = 1 from rfl,Nat.reduceMul,Nat.reduceEqDiff,Go.Addr.add,↓reduceIte] at hx117_1);have qi117 : (1 < t113.length) = True:=eq_true (by omega);(try rw [show ((1 : Int)).toNat = 1 from rfl] at hx117_0);(try rw [show 1 * 2 = 2 from rfl] at hx117_0);(try rw [show ((1 : Int)).toNat = 1 from rfl] at hx117_1);(try rw [show 1 * 2 = 2 from rfl] at hx117_1);replace p117:=eq_true p117;replace q117:=eq_true q117)|(go_at_call 19;(with_reducible refine (quant_Print.calls k 1024000 t118 _ A14.out (Glob.below hG (by repeat (first|(with_reducible first|exact HB.out|apply below_alloc|apply pw_below_drewN|apply below_drew1)|exact HB.out)))).mono ?_);rintro e w28 ⟨rfl,hb⟩;have n0_:=Aside0.mk (Kd.R_below (by (with_reducible repeat (first|apply Kd.R_alloc|apply Kd.R_drewN|apply Kd.R_drew));exact HO109.out) hb);have n1_:=Aside0.mk (Kd.R_below (by (with_reducible repeat (first|apply Kd.R_alloc|apply Kd.R_drewN|apply Kd.R_drew));exact HO112.out) hb);have n2_:=Aside0.mk (Kd.R_below (by (with_reducible repeat (first|apply Kd.R_alloc|apply Kd.R_drewN|apply Kd.R_drew));exact HO116.out) hb);have n3_:=Aside0.mk (below_step (by repeat (first|(with_reducible first|exact HB.out|apply below_alloc|apply pw_below_drewN|apply below_drew1)|exact HB.out)) hb);clear HO109;clear HO112;clear HO116;clear HB;have HO109:=n0_;have HO112:=n1_;have HO116:=n2_;have HB:=n3_;clear n0_ n1_ n2_ n3_;(try clear hb);(try clear hb2);(try clear hk);(try clear hi))|(go_at_call 19;(with_reducible refine (quant_Print.calls k 500 t119 _ A16.out (Glob.below hG (by repeat (first|(with_reducible first|exact HB.out|apply below_alloc|apply pw_below_drewN|apply below_drew1)|exact HB.out)))).mono ?_);rintro e w29 ⟨rfl,hb⟩;have n0_:=Aside0.mk (Kd.R_below (by (with_reducible repeat (first|apply Kd.R_alloc|apply Kd.R_drewN|apply Kd.R_drew));exact HO109.out) hb);have n1_:=Aside0.mk (Kd.R_below (by (with_reducible repeat (first|apply Kd.R_alloc|apply Kd.R_drewN|apply Kd.R_drew));exact HO112.out) hb);have n2_:=Aside0.mk (Kd.R_below (by (with_reducible repeat (first|apply Kd.R_alloc|apply Kd.R_drewN|apply Kd.R_drew));exact HO116.out) hb);have n3_:=Aside0.mk (below_step (by repeat (first|(with_reducible first|exact HB.out|apply below_alloc|apply pw_below_drewN|apply below_drew1)|exact HB.out)) hb);clear HO109;clear HO112;clear HO116;clear HB;have HO109:=n0_;have HO112:=n1_;have HO116:=n2_;have HB:=n3_;clear n0_ n1_ n2_ n3_;(try clear hb);(try clear hb2);(try clear hk);(try clear hi)))
 go_ret
 exact ⟨by first|rfl|(simp [errW_none,errW_some] <;> rfl)|(simp [*,errW_none,errW_some] <;> rfl),by repeat (first|(with_reducible first|exact HB.out|apply below_alloc|apply pw_below_drewN|apply below_drew1)|exact HB.out)⟩
end Go.Proofs.YtejgbdclhlolkaaGreatDoor.Q
namespace Go.Proofs.YtejgbdclhlolkaaGreatDoor.Q
open Go.RowKit Go.Proofs.YtejgbdclhlolkaaGreatDoorW.PrintWords Go.Proofs.YtejgbdclhlolkaaGreatDoorW.PrintLast Go.Proofs.YtejgbdclhlolkaaGreatDoorW.PrintMore
attribute [local go_sem] max2_int min2_int max_two min_two max_three min_three max_four min_four   -- for this text's walks alone
set_option linter.unusedVariables false
set_option linter.unusedSimpArgs false
attribute [local go_sem high] eqA57
def bursarlaw03_same.l0 : Nat → List (S57) → List (S57) → Int → Option (Bool)
|0,_,_,_ => none
|k + 1,x0,x1,x5 => if x5 < (x0.length : Int) then (if 0 ≤ x5 then (if x5 < (x1.length : Int) then (if (!((((rd_T57 x0 x5).f0).toList) == (((rd_T57 x1 x5).f0).toList)) || (!(((rd_T57 x0 x5).f1) == ((rd_T57 x1 x5).f1)))) = true then (some false) else (bursarlaw03_same.l0 k x0 x1 (wrap64 (x5 + 1)))) else (none)) else (none)) else (some true)
def bursarlaw03_same.f (k : Nat) (l0 : List (S57)) (l1 : List (S57)) : Option (Bool) := if (l0.length : Int) = (l1.length : Int) then (bursarlaw03_same.l0 k l0 l1 0) else (some false)
theorem bursarlaw03_same.mono_l : ∀ k, (∀ y0 y1 y2, LeO (bursarlaw03_same.l0 k y0 y1 y2) (bursarlaw03_same.l0 (k + 1) y0 y1 y2))
|0 => fun _ _ _ r h => by simp [bursarlaw03_same.l0] at h
|k + 1 => by
  have ih0:=bursarlaw03_same.mono_l k
  ·intro y0 y1 y2
   unfold bursarlaw03_same.l0
   repeat' first
  |(with_reducible exact ih0 _ _ _)
  |(with_reducible exact LeO.refl _)
  |(with_reducible exact LeO.none _)
  |(with_reducible refine LeO.ite ?_ ?_)
  |(with_reducible refine LeO.bind ?_ (fun _ => ?_))
  |exact ih0 _ _ _
  |exact LeO.none _
  |refine LeO.ite ?_ ?_
  |refine LeO.bind ?_ (fun _ => ?_)
theorem bursarlaw03_same.mono : ∀ a0 a1 k, LeO (bursarlaw03_same.f k a0 a1) (bursarlaw03_same.f (k + 1) a0 a1) := by
 intro a0 a1 k
 have ih0:=bursarlaw03_same.mono_l k
 unfold bursarlaw03_same.f
 repeat' first
  |(with_reducible exact ih0 _ _ _)
  |(with_reducible exact LeO.refl _)
  |(with_reducible exact LeO.none _)
  |(with_reducible refine LeO.ite ?_ ?_)
  |(with_reducible refine LeO.bind ?_ (fun _ => ?_))
  |exact ih0 _ _ _
  |exact LeO.none _
  |refine LeO.ite ?_ ?_
  |refine LeO.bind ?_ (fun _ => ?_)
set_option maxHeartbeats 8000000 in
set_option maxRecDepth 100000 in
theorem bursarlaw03_same.calls (k : Nat) (A0 : Option Addr) (c0 : Nat) (l0 : List (S57)) (A1 : Option Addr) (c1 : Nat) (l1 : List (S57)) (r : Bool) (w : World) (hr0 : Kd.C k57 w A0 l0.length l0) (hc0 : l0.length ≤ c0) (hr1 : Kd.C k57 w A1 l1.length l1) (hc1 : l1.length ≤ c1) (h : bursarlaw03_same.f k l0 l1 = some r) :
  Calls Tryz.prog 39 #[.slice A0 l0.length c0,.slice A1 l1.length c1] w fun e w' => e = .returned (.bool r) ∧ Drawn0 w w':=by
 have hu57:=Tryz.underlying57
 have HR0:=Aside0.mk hr0
 have HC0:=Aside0.mk hc0
 clear hr0 hc0
 have HR1:=Aside0.mk hr1
 have HC1:=Aside0.mk hc1
 clear hr1 hc1
 have H : (if (l0.length : Int) = (l1.length : Int) then (bursarlaw03_same.l0 k l0 l1 0) else (some false)) = some r:=h
 clear h
 by_cases c3 : (l0.length : Int) = (l1.length : Int)
 rotate_left
 ·rw [if_neg c3] at H
  have c3b0 : ((l0.length : Int) == (l1.length : Int)) = false:=beq_eq_false_iff_ne.mpr c3
  have c3b1 : ((l0.length : Int) != (l1.length : Int)) = true:=bne_iff_ne.mpr c3
  have c3b2 : (l0.length == l1.length) = false:=by first|simpa using c3|(simp at c3 ⊢;omega)
  obtain rfl:=Option.some.inj H
  go_enter Tryz.func39,Tryz.ntmps39
  go_wp2
  repeat (go_quiet (fail);try go_wp2)
  go_ret
  exact ⟨by first|rfl|(simp;done)|(simp [*];done),by repeat (first|exact Drawn0.refl _|apply Drawn0.step)⟩
 rw [if_pos c3] at H
 have c3b0 : ((l0.length : Int) == (l1.length : Int)) = true:=beq_iff_eq.mpr c3
 have c3b1 : ((l0.length : Int) != (l1.length : Int)) = false:=bne_eq_false_iff_eq.mpr c3
 have c3b2 : (l0.length == l1.length) = true:=by first|simpa using c3|(simp at c3 ⊢;omega)
 clear c3
 have H':=Aside0.mk H
 clear H
 go_enter Tryz.func39,Tryz.ntmps39
 go_wp2
 repeat (go_quiet (fail);try go_wp2)
 go_loopg [5] k (fun kq v5 w' => ∃ (x5_1 : Int),v5 = .int .i64 x5_1 ∧ Aside0 (bursarlaw03_same.l0 kq l0 l1 x5_1 = some r) ∧ Aside0 (kq ≤ k) ∧ Drawn0 w w')
 case atStart => exact ⟨(0),(by first|rfl|(simp;done)|(simp [*];done)|(simp;rw [Bool.eq_iff_iff];simp;done)|(rw [Bool.eq_iff_iff];simp;done)),H',⟨Nat.le_refl _⟩,by repeat (first|exact Drawn0.refl _|apply Drawn0.step)⟩
 case round =>
  clear H';(try clear c1);(try clear p2);(try clear c3);(try clear c3b0);(try clear c3b1);(try clear c3b2)
  obtain ⟨x5_1,rfl,HA,HK1,⟨m1,rfl⟩⟩:=hrel
  cases gk with
 |zero => exact absurd HA.out (by simp [bursarlaw03_same.l0])
 |succ k1 =>
   have H:=HA.out
   clear HA
   simp only [bursarlaw03_same.l0] at H
   by_cases c4 : x5_1 < (l0.length : Int)
   rotate_left
   ·rw [if_neg c4] at H
    have c4b0 : decide (x5_1 < (l0.length : Int)) = false:=decide_eq_false c4
    clear c4
    obtain rfl:=Option.some.inj H
    go_wp2
    repeat (go_quiet (fail);try go_wp2)
    go_ret
    exact ⟨by first|rfl|(simp;done)|(simp [*];done),by repeat (first|exact Drawn0.refl _|apply Drawn0.step)⟩
   rw [if_pos c4] at H
   have c4b0 : decide (x5_1 < (l0.length : Int)) = true:=decide_eq_true c4
   clear c4
   by_cases c5 : 0 ≤ x5_1
   rotate_left
   ·rw [if_neg c5] at H
    exact absurd H (by simp)
   rw [if_pos c5] at H
   have c5b0 : decide (0 ≤ x5_1) = true:=decide_eq_true c5
   clear c5
   by_cases c6 : x5_1 < (l1.length : Int)
   rotate_left
   ·rw [if_neg c6] at H
    exact absurd H (by simp)
   rw [if_pos c6] at H
   have c6b0 : decide (x5_1 < (l1.length : Int)) = true:=decide_eq_true c6
   clear c6
   by_cases c7 : (!((((rd_T57 l0 x5_1).f0).toList) == (((rd_T57 l1 x5_1).f0).toList)) || (!(((rd_T57 l0 x5_1).f1) == ((rd_T57 l1 x5_1).f1)))) = true
   ·rw [if_pos c7] at H
    have c7b0 : (!((((rd_T57 l0 x5_1).f0).toList) == (((rd_T57 l1 x5_1).f0).toList)) || (!(((rd_T57 l0 x5_1).f1) == ((rd_T57 l1 x5_1).f1)))) = true:=c7
    clear c7
    obtain rfl:=Option.some.inj H
    have p502 : 0 ≤ (x5_1 : Int):=of_decide_eq_true (by first|(with_reducible assumption)|assumption)
    have q502 : x5_1 < (l0.length : Int):=of_decide_eq_true (by first|(with_reducible assumption)|assumption)
    obtain ⟨ad502,e502,hx502_0,hx502_1⟩:=at_T57 HR0.out x5_1 p502 q502
    cases e502
    replace p502:=eq_true p502
    replace q502:=eq_true q502
    have p503 : 0 ≤ (x5_1 : Int):=of_decide_eq_true (by first|(with_reducible assumption)|assumption)
    have q503 : x5_1 < (l1.length : Int):=of_decide_eq_true (by first|(with_reducible assumption)|assumption)
    obtain ⟨ad503,e503,hx503_0,hx503_1⟩:=at_T57 HR1.out x5_1 p503 q503
    cases e503
    replace p503:=eq_true p503
    replace q503:=eq_true q503
    go_wp2
    repeat (go_quiet (fail);try go_wp2)
    go_ret
    exact ⟨by first|rfl|(simp;done)|(simp [*];done),by repeat (first|exact Drawn0.refl _|apply Drawn0.step)⟩
   rw [if_neg c7] at H
   have c7b0 : (!((((rd_T57 l0 x5_1).f0).toList) == (((rd_T57 l1 x5_1).f0).toList)) || (!(((rd_T57 l0 x5_1).f1) == ((rd_T57 l1 x5_1).f1)))) = false:=by simpa using c7
   clear c7
   have H':=Aside0.mk H
   clear H
   have p502 : 0 ≤ (x5_1 : Int):=of_decide_eq_true (by first|(with_reducible assumption)|assumption)
   have q502 : x5_1 < (l0.length : Int):=of_decide_eq_true (by first|(with_reducible assumption)|assumption)
   obtain ⟨ad502,e502,hx502_0,hx502_1⟩:=at_T57 HR0.out x5_1 p502 q502
   cases e502
   replace p502:=eq_true p502
   replace q502:=eq_true q502
   have p503 : 0 ≤ (x5_1 : Int):=of_decide_eq_true (by first|(with_reducible assumption)|assumption)
   have q503 : x5_1 < (l1.length : Int):=of_decide_eq_true (by first|(with_reducible assumption)|assumption)
   obtain ⟨ad503,e503,hx503_0,hx503_1⟩:=at_T57 HR1.out x5_1 p503 q503
   cases e503
   replace p503:=eq_true p503
   replace q503:=eq_true q503
   go_wp2
   repeat (go_quiet (fail);try go_wp2)
   go_roundg k1
   case measure => have:=HK1.out;omega
   case rel => exact ⟨(wrap64 (x5_1 + 1)),(by first|rfl|(simp;done)|(simp [*];done)|(simp;rw [Bool.eq_iff_iff];simp;done)|(rw [Bool.eq_iff_iff];simp;done)),H',⟨by have:=HK1.out;omega⟩,by repeat (first|exact Drawn0.refl _|apply Drawn0.step)⟩
end Go.Proofs.YtejgbdclhlolkaaGreatDoor.Q
namespace Go.Proofs.YtejgbdclhlolkaaGreatDoor.Q
open Go.RowKit Go.Proofs.YtejgbdclhlolkaaGreatDoorW.PrintWords Go.Proofs.YtejgbdclhlolkaaGreatDoorW.PrintLast Go.Proofs.YtejgbdclhlolkaaGreatDoorW.PrintMore
attribute [local go_sem] max2_int min2_int max_two min_two max_three min_three max_four min_four   -- for this text's walks alone
set_option linter.unusedVariables false
set_option linter.unusedSimpArgs false
def quant_Of.l0 : Nat → ByteArray → List (S57) → Int → Int → Option (Int × Bool)
|0,_,_,_,_ => none
|k + 1,x1,x8,x9,x10 => if x10 < x9 then (if 0 ≤ x10 then (if x10 < (x8.length : Int) then (if ((rd_T57 x8 x10).f0).toList = x1.toList then (some ((rd_T57 x8 x10).f1,true)) else (quant_Of.l0 k x1 x8 x9 (wrap64 (x10 + 1)))) else (none)) else (none)) else (some (0,false))
def quant_Of.f (k : Nat) (l0 : List (S57)) (a1 : ByteArray) : Option (Int × Bool) := quant_Of.l0 k a1 l0 (l0.length : Int) 0
theorem quant_Of.mono_l : ∀ k, (∀ y0 y1 y2 y3, LeO (quant_Of.l0 k y0 y1 y2 y3) (quant_Of.l0 (k + 1) y0 y1 y2 y3))
|0 => fun _ _ _ _ r h => by simp [quant_Of.l0] at h
|k + 1 => by
  have ih0:=quant_Of.mono_l k
  ·intro y0 y1 y2 y3
   unfold quant_Of.l0
   repeat' first
  |(with_reducible exact ih0 _ _ _ _)
  |(with_reducible exact LeO.refl _)
  |(with_reducible exact LeO.none _)
  |(with_reducible refine LeO.ite ?_ ?_)
  |(with_reducible refine LeO.bind ?_ (fun _ => ?_))
  |exact ih0 _ _ _ _
  |exact LeO.none _
  |refine LeO.ite ?_ ?_
  |refine LeO.bind ?_ (fun _ => ?_)
theorem quant_Of.mono : ∀ a0 a1 k, LeO (quant_Of.f k a0 a1) (quant_Of.f (k + 1) a0 a1) := by
 intro a0 a1 k
 have ih0:=quant_Of.mono_l k
 unfold quant_Of.f
 repeat' first
  |(with_reducible exact ih0 _ _ _ _)
  |(with_reducible exact LeO.refl _)
  |(with_reducible exact LeO.none _)
  |(with_reducible refine LeO.ite ?_ ?_)
  |(with_reducible refine LeO.bind ?_ (fun _ => ?_))
  |exact ih0 _ _ _ _
  |exact LeO.none _
  |refine LeO.ite ?_ ?_
  |refine LeO.bind ?_ (fun _ => ?_)
set_option maxHeartbeats 8000000 in
set_option maxRecDepth 100000 in
theorem quant_Of.calls (k : Nat) (A0 : Option Addr) (c0 : Nat) (l0 : List (S57)) (a1 : ByteArray) (r1 : Int) (r2 : Bool) (w : World) (hr0 : Kd.C k57 w A0 l0.length l0) (hc0 : l0.length ≤ c0) (h : quant_Of.f k l0 a1 = some (r1, r2)) :
  Calls Tryz.prog 30 #[.slice A0 l0.length c0,.string a1] w fun e w' => e = .returned (.tuple #[.int .i64 r1,.bool r2]) ∧ Below w.heap.size w w':=by
 have hu57:=Tryz.underlying57
 have HR0:=Aside0.mk hr0
 have HC0:=Aside0.mk hc0
 clear hr0 hc0
 have HB:=Aside0.mk (Below.refl w.heap.size w)
 have H : (quant_Of.l0 k a1 l0 (l0.length : Int) 0) = some (r1,r2):=h
 clear h
 have H':=Aside0.mk H
 clear H
 go_enter Tryz.func30,Tryz.ntmps30
 go_wp2
 go_loopg [10] k (fun kq v10 w' => ∃ (x10_1 : Int),v10 = .int .i64 x10_1 ∧ Aside0 (quant_Of.l0 kq a1 l0 (l0.length : Int) x10_1 = some (r1,r2)) ∧ Aside0 (kq ≤ k) ∧ Aside0 (Below w.heap.size w w'))
 case atStart => exact ⟨(0),(by first|rfl|(simp;done)|(simp [*];done)|(simp;rw [Bool.eq_iff_iff];simp;done)|(rw [Bool.eq_iff_iff];simp;done)),H',⟨Nat.le_refl _⟩,⟨by repeat (first|(with_reducible first|exact HB.out|apply below_alloc|apply pw_below_drewN|apply below_drew1)|exact HB.out)⟩⟩
 case round =>
  clear H';(try clear p2)
  obtain ⟨x10_1,rfl,HA,HK1,HB⟩:=hrel
  cases gk with
 |zero => exact absurd HA.out (by simp [quant_Of.l0])
 |succ k1 =>
   have H:=HA.out
   clear HA
   simp only [quant_Of.l0] at H
   by_cases c3 : x10_1 < (l0.length : Int)
   rotate_left
   ·rw [if_neg c3] at H
    have c3b0 : decide (x10_1 < (l0.length : Int)) = false:=decide_eq_false c3
    clear c3
    simp only [Option.some.injEq,Prod.mk.injEq] at H
    obtain ⟨rfl,rfl⟩:=H
    go_wp2
    go_ret2
    exact ⟨by first|rfl|(simp [errW_none,errW_some] <;> rfl)|(simp [*,errW_none,errW_some] <;> rfl),by repeat (first|(with_reducible first|exact HB.out|apply below_alloc|apply pw_below_drewN|apply below_drew1)|exact HB.out)⟩
   rw [if_pos c3] at H
   have c3b0 : decide (x10_1 < (l0.length : Int)) = true:=decide_eq_true c3
   clear c3
   by_cases c4 : 0 ≤ x10_1
   rotate_left
   ·rw [if_neg c4] at H
    exact absurd H (by simp)
   rw [if_pos c4] at H
   have c4b0 : decide (0 ≤ x10_1) = true:=decide_eq_true c4
   clear c4
   by_cases c5 : x10_1 < (l0.length : Int)
   rotate_left
   ·rw [if_neg c5] at H
    exact absurd H (by simp)
   rw [if_pos c5] at H
   have c5b0 : decide (x10_1 < (l0.length : Int)) = true:=decide_eq_true c5
   clear c5
   by_cases c6 : ((rd_T57 l0 x10_1).f0).toList = a1.toList
   ·rw [if_pos c6] at H
    have c6b0 : (((rd_T57 l0 x10_1).f0).toList == a1.toList) = true:=beq_iff_eq.mpr c6
    have c6b1 : (((rd_T57 l0 x10_1).f0).toList != a1.toList) = false:=bne_eq_false_iff_eq.mpr c6
    clear c6
    simp only [Option.some.injEq,Prod.mk.injEq] at H
    obtain ⟨rfl,rfl⟩:=H
    have p413 : 0 ≤ (x10_1 : Int):=of_decide_eq_true (by first|(with_reducible assumption)|assumption)
    have q413 : x10_1 < (l0.length : Int):=of_decide_eq_true (by first|(with_reducible assumption)|assumption)
    obtain ⟨ad413,e413,hx413_0,hx413_1⟩:=at_T57 HR0.out x10_1 p413 q413
    cases e413
    replace hx413_0:=(HB.out.cell (World.block_lt_of_cell? w _ hx413_0)).trans hx413_0
    replace hx413_1:=(HB.out.cell (World.block_lt_of_cell? w _ hx413_1)).trans hx413_1
    replace p413:=eq_true p413
    replace q413:=eq_true q413
    go_wp2_with (first|((with_reducible refine gate_dst (N:=7) rfl ?_);refine box_event ?hg (N:=7) ?hd (cs:=#[.string (⟨#[]⟩ : ByteArray),.int .i64 0]) (t:=57) ?hr ?_;(case hd => rfl);(case hg => rfl);(case hr => first|(go_simp;done)|(go_simp;rfl));intro gb414 hg w7 hbox hb;have n0_:=Aside0.mk (below_step (by repeat (first|(with_reducible first|exact HB.out|apply below_alloc|apply pw_below_drewN|apply below_drew1)|exact HB.out)) hb);have n1_:=Aside0.mk (hbox);have n2_:=Aside0.mk ((by rw [hg];exact (below_size (by repeat (first|(with_reducible first|exact HB.out|apply below_alloc|apply pw_below_drewN|apply below_drew1)|exact HB.out))) : w.heap.size ≤ gb414));have n3_:=Aside0.mk ((by rw [hg];exact (below_size (by repeat (first|(with_reducible first|exact HB.out|apply below_alloc|apply pw_below_drewN|apply below_drew1)|exact HB.out))) : w.heap.size ≤ gb414));clear HB;have HB:=n0_;have BK414:=n1_;have GW414:=n2_;have GE414:=n3_;clear n0_ n1_ n2_ n3_;clear hb hbox hg;have hcz8_0 : w7.cell? ⟨gb414,0,none⟩ = some (.string (⟨#[]⟩ : ByteArray)):=(blk_cell BK414.out 0).trans rfl;have hcz8_1 : w7.cell? ⟨gb414,1,none⟩ = some (.int .i64 0):=(blk_cell BK414.out 1).trans rfl;have hfz8_0:=blk_frozen BK414.out 0;have hfz8_1:=blk_frozen BK414.out 1))
    go_ret2
    exact ⟨by first|rfl|(simp [errW_none,errW_some] <;> rfl)|(simp [*,errW_none,errW_some] <;> rfl),by repeat (first|(with_reducible first|exact HB.out|apply below_alloc|apply pw_below_drewN|apply below_drew1|refine below_set ?_ GE414.out)|exact HB.out)⟩
   rw [if_neg c6] at H
   have c6b0 : (((rd_T57 l0 x10_1).f0).toList == a1.toList) = false:=beq_eq_false_iff_ne.mpr c6
   have c6b1 : (((rd_T57 l0 x10_1).f0).toList != a1.toList) = true:=bne_iff_ne.mpr c6
   have H':=Aside0.mk H
   clear H
   have p413 : 0 ≤ (x10_1 : Int):=of_decide_eq_true (by first|(with_reducible assumption)|assumption)
   have q413 : x10_1 < (l0.length : Int):=of_decide_eq_true (by first|(with_reducible assumption)|assumption)
   obtain ⟨ad413,e413,hx413_0,hx413_1⟩:=at_T57 HR0.out x10_1 p413 q413
   cases e413
   replace hx413_0:=(HB.out.cell (World.block_lt_of_cell? w _ hx413_0)).trans hx413_0
   replace hx413_1:=(HB.out.cell (World.block_lt_of_cell? w _ hx413_1)).trans hx413_1
   replace p413:=eq_true p413
   replace q413:=eq_true q413
   go_wp2_with (first|((with_reducible refine gate_dst (N:=7) rfl ?_);refine box_event ?hg (N:=7) ?hd (cs:=#[.string (⟨#[]⟩ : ByteArray),.int .i64 0]) (t:=57) ?hr ?_;(case hd => rfl);(case hg => rfl);(case hr => first|(go_simp;done)|(go_simp;rfl));intro gb414 hg w9 hbox hb;have n0_:=Aside0.mk (below_step (by repeat (first|(with_reducible first|exact HB.out|apply below_alloc|apply pw_below_drewN|apply below_drew1)|exact HB.out)) hb);have n1_:=Aside0.mk (hbox);have n2_:=Aside0.mk ((by rw [hg];exact (below_size (by repeat (first|(with_reducible first|exact HB.out|apply below_alloc|apply pw_below_drewN|apply below_drew1)|exact HB.out))) : w.heap.size ≤ gb414));have n3_:=Aside0.mk ((by rw [hg];exact (below_size (by repeat (first|(with_reducible first|exact HB.out|apply below_alloc|apply pw_below_drewN|apply below_drew1)|exact HB.out))) : w.heap.size ≤ gb414));clear HB;have HB:=n0_;have BK414:=n1_;have GW414:=n2_;have GE414:=n3_;clear n0_ n1_ n2_ n3_;clear hb hbox hg;have hcz10_0 : w9.cell? ⟨gb414,0,none⟩ = some (.string (⟨#[]⟩ : ByteArray)):=(blk_cell BK414.out 0).trans rfl;have hcz10_1 : w9.cell? ⟨gb414,1,none⟩ = some (.int .i64 0):=(blk_cell BK414.out 1).trans rfl;have hfz10_0:=blk_frozen BK414.out 0;have hfz10_1:=blk_frozen BK414.out 1))
   go_roundg k1
   case measure => have:=HK1.out;omega
   case rel => exact ⟨(wrap64 (x10_1 + 1)),(by first|rfl|(simp;done)|(simp [*];done)|(simp;rw [Bool.eq_iff_iff];simp;done)|(rw [Bool.eq_iff_iff];simp;done)),H',⟨by have:=HK1.out;omega⟩,⟨by repeat (first|(with_reducible first|exact HB.out|apply below_alloc|apply pw_below_drewN|apply below_drew1|refine below_set ?_ GE414.out)|exact HB.out)⟩⟩
end Go.Proofs.YtejgbdclhlolkaaGreatDoor.Q
namespace Go.Proofs.YtejgbdclhlolkaaGreatDoor.Q
open Go.RowKit Go.Proofs.YtejgbdclhlolkaaGreatDoorW.PrintWords Go.Proofs.YtejgbdclhlolkaaGreatDoorW.PrintLast Go.Proofs.YtejgbdclhlolkaaGreatDoorW.PrintMore
attribute [local go_sem] max2_int min2_int max_two min_two max_three min_three max_four min_four   -- for this text's walks alone
set_option linter.unusedVariables false
set_option linter.unusedSimpArgs false
def quant_Within.l0 : Nat → List (S57) → List (S57) → Int → Int → Option (ByteArray × Int)
|0,_,_,_,_ => none
|k + 1,x0,x14,x15,x16 => if x16 < x15 then (if 0 ≤ x16 then (if x16 < (x14.length : Int) then ((quant_Of.f k x0 ((rd_T57 x14 x16).f0)).bind fun bt609 => (if bt609.1 > ((rd_T57 x14 x16).f1) then (some ((rd_T57 x14 x16).f0,0)) else (quant_Within.l0 k x0 x14 x15 (wrap64 (x16 + 1))))) else (none)) else (none)) else (some ((⟨#[]⟩ : ByteArray),0))
def quant_Within.f (k : Nat) (l0 : List (S57)) (l1 : List (S57)) : Option (ByteArray × Int) := (quant_valid.f k l0 l1).bind fun t606 => (if t606 = true then (quant_Within.l0 k l0 l1 (l1.length : Int) 0) else (some ((⟨#[]⟩ : ByteArray), 31)))
theorem quant_Within.mono_l : ∀ k, (∀ y0 y1 y2 y3, LeO (quant_Within.l0 k y0 y1 y2 y3) (quant_Within.l0 (k + 1) y0 y1 y2 y3))
|0 => fun _ _ _ _ r h => by simp [quant_Within.l0] at h
|k + 1 => by
  have ih0:=quant_Within.mono_l k
  ·intro y0 y1 y2 y3
   unfold quant_Within.l0
   repeat' first
  |(with_reducible exact ih0 _ _ _ _)
  |(with_reducible exact quant_Of.mono _ _ _)
  |(with_reducible exact quant_valid.mono _ _ _)
  |(with_reducible exact LeO.refl _)
  |(with_reducible exact LeO.none _)
  |(with_reducible refine LeO.ite ?_ ?_)
  |(with_reducible refine LeO.bind ?_ (fun _ => ?_))
  |exact ih0 _ _ _ _
  |exact quant_Of.mono _ _ _
  |exact quant_valid.mono _ _ _
  |exact LeO.none _
  |refine LeO.ite ?_ ?_
  |refine LeO.bind ?_ (fun _ => ?_)
theorem quant_Within.mono : ∀ a0 a1 k, LeO (quant_Within.f k a0 a1) (quant_Within.f (k + 1) a0 a1) := by
 intro a0 a1 k
 have ih0:=quant_Within.mono_l k
 unfold quant_Within.f
 repeat' first
  |(with_reducible exact ih0 _ _ _ _)
  |(with_reducible exact quant_Of.mono _ _ _)
  |(with_reducible exact quant_valid.mono _ _ _)
  |(with_reducible exact LeO.refl _)
  |(with_reducible exact LeO.none _)
  |(with_reducible refine LeO.ite ?_ ?_)
  |(with_reducible refine LeO.bind ?_ (fun _ => ?_))
  |exact ih0 _ _ _ _
  |exact quant_Of.mono _ _ _
  |exact quant_valid.mono _ _ _
  |exact LeO.none _
  |refine LeO.ite ?_ ?_
  |refine LeO.bind ?_ (fun _ => ?_)
set_option maxHeartbeats 8000000 in
set_option maxRecDepth 100000 in
theorem quant_Within.calls (k : Nat) (A0 : Option Addr) (c0 : Nat) (l0 : List (S57)) (A1 : Option Addr) (c1 : Nat) (l1 : List (S57)) (r1 : ByteArray) (r2 : Int) (w : World) (hr0 : Kd.C k57 w A0 l0.length l0) (hc0 : l0.length ≤ c0) (hr1 : Kd.C k57 w A1 l1.length l1) (hc1 : l1.length ≤ c1) (h : quant_Within.f k l0 l1 = some (r1, r2)) (hG : Glob w) :
  Calls Tryz.prog 44 #[.slice A0 l0.length c0,.slice A1 l1.length c1] w fun e w' => e = .returned (.tuple #[.string r1,.int .i64 r2]) ∧ Below w.heap.size w w':=by
 have hu57:=Tryz.underlying57
 have HR0:=Aside0.mk hr0
 have HC0:=Aside0.mk hc0
 clear hr0 hc0
 have HR1:=Aside0.mk hr1
 have HC1:=Aside0.mk hc1
 clear hr1 hc1
 have HB:=Aside0.mk (Below.refl w.heap.size w)
 have H : ((quant_valid.f k l0 l1).bind fun t606 => (if t606 = true then (quant_Within.l0 k l0 l1 (l1.length : Int) 0) else (some ((⟨#[]⟩ : ByteArray),31)))) = some (r1,r2):=h
 clear h
 replace H:=Option.bind_eq_some_iff.mp H
 obtain ⟨t606,A30,H⟩:=H
 replace H : (if t606 = true then (quant_Within.l0 k l0 l1 (l1.length : Int) 0) else (some ((⟨#[]⟩ : ByteArray),31))) = some (r1,r2):=H
 have A3:=Aside0.mk A30
 clear A30
 by_cases c4 : t606 = true
 rotate_left
 ·replace c4:=Bool.eq_false_iff.mpr c4
  subst c4
  have H1 : (some ((⟨#[]⟩ : ByteArray),31)) = some (r1,r2):=by rw [if_neg (show ¬ (false = true) by decide)] at H;exact H
  clear H;have H:=H1;clear H1
  simp only [Option.some.injEq,Prod.mk.injEq] at H
  obtain ⟨rfl,rfl⟩:=H
  go_enter Tryz.func44,Tryz.ntmps44
  go_wp2_with (first|((with_reducible refine gate_callee (f:=73) rfl ?_);refine goesL_ (some 12) rfl rfl Tryz.func73 (by kernel_rfl) rfl #[.slice A0 l0.length c0,.slice A1 l1.length c1] rfl (by (try simp only [List.map_toArray,List.map_cons,List.map_nil]);first|done|rfl|(simp only [List.length_drop,List.length_take];rfl)) ?_;(with_reducible refine (quant_valid.calls k _ _ l0 _ _ l1 false _ ?side1 ?side2 ?side3 ?side4 A3.out (Glob.below hG (by repeat (first|(with_reducible first|exact HB.out|apply below_alloc|apply pw_below_drewN|apply below_drew1)|exact HB.out)))).mono ?_);(case side1 => repeat (first|exact HR0.out|(with_reducible refine Kd.C_alloc ?_ _)|(with_reducible refine Kd.C_drewN ?_ _)|(with_reducible refine Kd.C_drew ?_)));(case side2 => exact HC0.out);(case side3 => repeat (first|exact HR1.out|(with_reducible refine Kd.C_alloc ?_ _)|(with_reducible refine Kd.C_drewN ?_ _)|(with_reducible refine Kd.C_drew ?_)));(case side4 => exact HC1.out);rintro e w19 ⟨rfl,hb⟩;refine ⟨_,rfl,?_⟩;have n0_:=Aside0.mk (below_step (by repeat (first|(with_reducible first|exact HB.out|apply below_alloc|apply pw_below_drewN|apply below_drew1)|exact HB.out)) hb);clear HB;have HB:=n0_;clear n0_;(try clear hb);(try clear hb2);(try clear hk);(try clear hi)))
  go_ret2
  exact ⟨by first|rfl|(simp [errW_none,errW_some] <;> rfl)|(simp [*,errW_none,errW_some] <;> rfl),by repeat (first|(with_reducible first|exact HB.out|apply below_alloc|apply pw_below_drewN|apply below_drew1)|exact HB.out)⟩
 subst c4
 have H1 : (quant_Within.l0 k l0 l1 (l1.length : Int) 0) = some (r1,r2):=by rw [if_pos rfl] at H;exact H
 clear H;have H:=H1;clear H1
 have H':=Aside0.mk H
 clear H
 go_enter Tryz.func44,Tryz.ntmps44
 go_wp2_with (first|((with_reducible refine gate_callee (f:=73) rfl ?_);refine goesL_ (some 12) rfl rfl Tryz.func73 (by kernel_rfl) rfl #[.slice A0 l0.length c0,.slice A1 l1.length c1] rfl (by (try simp only [List.map_toArray,List.map_cons,List.map_nil]);first|done|rfl|(simp only [List.length_drop,List.length_take];rfl)) ?_;(with_reducible refine (quant_valid.calls k _ _ l0 _ _ l1 true _ ?side1 ?side2 ?side3 ?side4 A3.out (Glob.below hG (by repeat (first|(with_reducible first|exact HB.out|apply below_alloc|apply pw_below_drewN|apply below_drew1)|exact HB.out)))).mono ?_);(case side1 => repeat (first|exact HR0.out|(with_reducible refine Kd.C_alloc ?_ _)|(with_reducible refine Kd.C_drewN ?_ _)|(with_reducible refine Kd.C_drew ?_)));(case side2 => exact HC0.out);(case side3 => repeat (first|exact HR1.out|(with_reducible refine Kd.C_alloc ?_ _)|(with_reducible refine Kd.C_drewN ?_ _)|(with_reducible refine Kd.C_drew ?_)));(case side4 => exact HC1.out);rintro e w5 ⟨rfl,hb⟩;refine ⟨_,rfl,?_⟩;have n0_:=Aside0.mk (below_step (by repeat (first|(with_reducible first|exact HB.out|apply below_alloc|apply pw_below_drewN|apply below_drew1)|exact HB.out)) hb);clear HB;have HB:=n0_;clear n0_;(try clear hb);(try clear hb2);(try clear hk);(try clear hi)))
 go_loopg [16] k (fun kq v16 w' => ∃ (x16_1 : Int),v16 = .int .i64 x16_1 ∧ Aside0 (quant_Within.l0 kq l0 l1 (l1.length : Int) x16_1 = some (r1,r2)) ∧ Aside0 (kq ≤ k) ∧ Aside0 (Below w.heap.size w w'))
 case atStart => exact ⟨(0),(by first|rfl|(simp;done)|(simp [*];done)|(simp;rw [Bool.eq_iff_iff];simp;done)|(rw [Bool.eq_iff_iff];simp;done)),H',⟨Nat.le_refl _⟩,⟨by repeat (first|(with_reducible first|exact HB.out|apply below_alloc|apply pw_below_drewN|apply below_drew1)|exact HB.out)⟩⟩
 case round =>
  clear H';(try clear c1);(try clear p2);(try clear c4)
  obtain ⟨x16_1,rfl,HA,HK1,HB⟩:=hrel
  cases gk with
 |zero => exact absurd HA.out (by simp [quant_Within.l0])
 |succ k1 =>
   have H:=HA.out
   clear HA
   simp only [quant_Within.l0] at H
   by_cases c6 : x16_1 < (l1.length : Int)
   rotate_left
   ·rw [if_neg c6] at H
    have c6b0 : decide (x16_1 < (l1.length : Int)) = false:=decide_eq_false c6
    clear c6
    simp only [Option.some.injEq,Prod.mk.injEq] at H
    obtain ⟨rfl,rfl⟩:=H
    go_wp2
    go_ret2
    exact ⟨by first|rfl|(simp [errW_none,errW_some] <;> rfl)|(simp [*,errW_none,errW_some] <;> rfl),by repeat (first|(with_reducible first|exact HB.out|apply below_alloc|apply pw_below_drewN|apply below_drew1)|exact HB.out)⟩
   rw [if_pos c6] at H
   have c6b0 : decide (x16_1 < (l1.length : Int)) = true:=decide_eq_true c6
   clear c6
   by_cases c7 : 0 ≤ x16_1
   rotate_left
   ·rw [if_neg c7] at H
    exact absurd H (by simp)
   rw [if_pos c7] at H
   have c7b0 : decide (0 ≤ x16_1) = true:=decide_eq_true c7
   clear c7
   by_cases c8 : x16_1 < (l1.length : Int)
   rotate_left
   ·rw [if_neg c8] at H
    exact absurd H (by simp)
   rw [if_pos c8] at H
   have c8b0 : decide (x16_1 < (l1.length : Int)) = true:=decide_eq_true c8
   clear c8
   replace H:=Option.bind_eq_some_iff.mp H
   obtain ⟨⟨t609,t610⟩,A90,H⟩:=H
   replace H : (if t609 > ((rd_T57 l1 x16_1).f1) then (some ((rd_T57 l1 x16_1).f0,0)) else (quant_Within.l0 k1 l0 l1 (l1.length : Int) (wrap64 (x16_1 + 1)))) = some (r1,r2):=H
   have A9:=Aside0.mk A90
   clear A90
   by_cases c10 : t609 > ((rd_T57 l1 x16_1).f1)
   ·rw [if_pos c10] at H
    have c10b0 : decide (((rd_T57 l1 x16_1).f1) < t609) = true:=decide_eq_true c10
    clear c10
    simp only [Option.some.injEq,Prod.mk.injEq] at H
    obtain ⟨rfl,rfl⟩:=H
    have p607 : 0 ≤ (x16_1 : Int):=of_decide_eq_true (by first|(with_reducible assumption)|assumption)
    have q607 : x16_1 < (l1.length : Int):=of_decide_eq_true (by first|(with_reducible assumption)|assumption)
    obtain ⟨ad607,e607,hx607_0,hx607_1⟩:=at_T57 HR1.out x16_1 p607 q607
    cases e607
    replace hx607_0:=(HB.out.cell (World.block_lt_of_cell? w _ hx607_0)).trans hx607_0
    replace hx607_1:=(HB.out.cell (World.block_lt_of_cell? w _ hx607_1)).trans hx607_1
    replace p607:=eq_true p607
    replace q607:=eq_true q607
    go_wp2_with (first|((with_reducible refine gate_dst (N:=7) rfl ?_);refine box_event ?hg (N:=7) ?hd (cs:=#[.string (⟨#[]⟩ : ByteArray),.int .i64 0]) (t:=57) ?hr ?_;(case hd => rfl);(case hg => rfl);(case hr => first|(go_simp;done)|(go_simp;rfl));intro gb608 hg w11 hbox hb;have n0_:=Aside0.mk (below_step (by repeat (first|(with_reducible first|exact HB.out|apply below_alloc|apply pw_below_drewN|apply below_drew1)|exact HB.out)) hb);have n1_:=Aside0.mk (hbox);have n2_:=Aside0.mk ((by rw [hg];exact (below_size (by repeat (first|(with_reducible first|exact HB.out|apply below_alloc|apply pw_below_drewN|apply below_drew1)|exact HB.out))) : w.heap.size ≤ gb608));have n3_:=Aside0.mk ((by rw [hg];exact (below_size (by repeat (first|(with_reducible first|exact HB.out|apply below_alloc|apply pw_below_drewN|apply below_drew1)|exact HB.out))) : w.heap.size ≤ gb608));clear HB;have HB:=n0_;have BK608:=n1_;have GW608:=n2_;have GE608:=n3_;clear n0_ n1_ n2_ n3_;clear hb hbox hg;have hcz12_0 : w11.cell? ⟨gb608,0,none⟩ = some (.string (⟨#[]⟩ : ByteArray)):=(blk_cell BK608.out 0).trans rfl;have hcz12_1 : w11.cell? ⟨gb608,1,none⟩ = some (.int .i64 0):=(blk_cell BK608.out 1).trans rfl;have hfz12_0:=blk_frozen BK608.out 0;have hfz12_1:=blk_frozen BK608.out 1)|((with_reducible refine gate_callee (f:=30) rfl ?_);refine goesL_ (some 24) rfl rfl Tryz.func30 (by kernel_rfl) rfl #[.slice A0 l0.length c0,.string ((rd_T57 l1 x16_1).f0)] rfl (by (try simp only [List.map_toArray,List.map_cons,List.map_nil]);first|done|rfl|(simp only [List.length_drop,List.length_take];rfl)) ?_;(with_reducible refine (quant_Of.calls k1 _ _ l0 ((rd_T57 l1 x16_1).f0) t609 t610 _ ?side1 ?side2 A9.out).mono ?_);(case side1 => exact Kd.C_below HR0.out (by repeat (first|(with_reducible first|exact HB.out|apply below_alloc|apply pw_below_drewN|apply below_drew1|refine below_set ?_ GE608.out)|exact HB.out)));(case side2 => exact HC0.out);rintro e w13 ⟨rfl,hb⟩;refine ⟨_,rfl,?_⟩;have n0_:=Aside0.mk (blk_below (g:=gb608) (o:=.cells #[.string ((rd_T57 l1 x16_1).f0),.int .i64 ((rd_T57 l1 x16_1).f1)] 57 (0,0)) (by (with_reducible repeat (first|refine blk_drewN ?_ _|refine blk_drew ?_|refine blk_alloc ?_ _));refine blk_put (cs:=#[.string ((rd_T57 l1 x16_1).f0),.int .i64 0]) ?_ 1 _ rfl;(with_reducible repeat (first|refine blk_drewN ?_ _|refine blk_drew ?_|refine blk_alloc ?_ _));refine blk_put (cs:=#[.string (⟨#[]⟩ : ByteArray),.int .i64 0]) ?_ 0 _ rfl;(with_reducible repeat (first|refine blk_drewN ?_ _|refine blk_drew ?_|refine blk_alloc ?_ _));exact BK608.out) hb);have n1_:=Aside0.mk (below_step (by repeat (first|(with_reducible first|exact HB.out|apply below_alloc|apply pw_below_drewN|apply below_drew1|refine below_set ?_ GE608.out)|exact HB.out)) hb);clear BK608;clear HB;have BK608:=n0_;have HB:=n1_;clear n0_ n1_;(try clear hb);(try clear hb2);(try clear hk);(try clear hi);have hcz14_0 : w13.cell? ⟨gb608,0,none⟩ = some (.string ((rd_T57 l1 x16_1).f0)):=(blk_cell BK608.out 0).trans rfl;have hcz14_1 : w13.cell? ⟨gb608,1,none⟩ = some (.int .i64 ((rd_T57 l1 x16_1).f1)):=(blk_cell BK608.out 1).trans rfl;have hfz14_0:=blk_frozen BK608.out 0;have hfz14_1:=blk_frozen BK608.out 1))
    go_ret2
    exact ⟨by first|rfl|(simp [errW_none,errW_some] <;> rfl)|(simp [*,errW_none,errW_some] <;> rfl),by repeat (first|(with_reducible first|exact HB.out|apply below_alloc|apply pw_below_drewN|apply below_drew1|refine below_set ?_ GE608.out)|exact HB.out)⟩
   rw [if_neg c10] at H
   have c10b0 : decide (((rd_T57 l1 x16_1).f1) < t609) = false:=decide_eq_false c10
   clear c10
   have H':=Aside0.mk H
   clear H
   have p607 : 0 ≤ (x16_1 : Int):=of_decide_eq_true (by first|(with_reducible assumption)|assumption)
   have q607 : x16_1 < (l1.length : Int):=of_decide_eq_true (by first|(with_reducible assumption)|assumption)
   obtain ⟨ad607,e607,hx607_0,hx607_1⟩:=at_T57 HR1.out x16_1 p607 q607
   cases e607
   replace hx607_0:=(HB.out.cell (World.block_lt_of_cell? w _ hx607_0)).trans hx607_0
   replace hx607_1:=(HB.out.cell (World.block_lt_of_cell? w _ hx607_1)).trans hx607_1
   replace p607:=eq_true p607
   replace q607:=eq_true q607
   go_wp2_with (first|((with_reducible refine gate_dst (N:=7) rfl ?_);refine box_event ?hg (N:=7) ?hd (cs:=#[.string (⟨#[]⟩ : ByteArray),.int .i64 0]) (t:=57) ?hr ?_;(case hd => rfl);(case hg => rfl);(case hr => first|(go_simp;done)|(go_simp;rfl));intro gb608 hg w15 hbox hb;have n0_:=Aside0.mk (below_step (by repeat (first|(with_reducible first|exact HB.out|apply below_alloc|apply pw_below_drewN|apply below_drew1)|exact HB.out)) hb);have n1_:=Aside0.mk (hbox);have n2_:=Aside0.mk ((by rw [hg];exact (below_size (by repeat (first|(with_reducible first|exact HB.out|apply below_alloc|apply pw_below_drewN|apply below_drew1)|exact HB.out))) : w.heap.size ≤ gb608));have n3_:=Aside0.mk ((by rw [hg];exact (below_size (by repeat (first|(with_reducible first|exact HB.out|apply below_alloc|apply pw_below_drewN|apply below_drew1)|exact HB.out))) : w.heap.size ≤ gb608));clear HB;have HB:=n0_;have BK608:=n1_;have GW608:=n2_;have GE608:=n3_;clear n0_ n1_ n2_ n3_;clear hb hbox hg;have hcz16_0 : w15.cell? ⟨gb608,0,none⟩ = some (.string (⟨#[]⟩ : ByteArray)):=(blk_cell BK608.out 0).trans rfl;have hcz16_1 : w15.cell? ⟨gb608,1,none⟩ = some (.int .i64 0):=(blk_cell BK608.out 1).trans rfl;have hfz16_0:=blk_frozen BK608.out 0;have hfz16_1:=blk_frozen BK608.out 1)|((with_reducible refine gate_callee (f:=30) rfl ?_);refine goesL_ (some 24) rfl rfl Tryz.func30 (by kernel_rfl) rfl #[.slice A0 l0.length c0,.string ((rd_T57 l1 x16_1).f0)] rfl (by (try simp only [List.map_toArray,List.map_cons,List.map_nil]);first|done|rfl|(simp only [List.length_drop,List.length_take];rfl)) ?_;(with_reducible refine (quant_Of.calls k1 _ _ l0 ((rd_T57 l1 x16_1).f0) t609 t610 _ ?side1 ?side2 A9.out).mono ?_);(case side1 => exact Kd.C_below HR0.out (by repeat (first|(with_reducible first|exact HB.out|apply below_alloc|apply pw_below_drewN|apply below_drew1|refine below_set ?_ GE608.out)|exact HB.out)));(case side2 => exact HC0.out);rintro e w17 ⟨rfl,hb⟩;refine ⟨_,rfl,?_⟩;have n0_:=Aside0.mk (blk_below (g:=gb608) (o:=.cells #[.string ((rd_T57 l1 x16_1).f0),.int .i64 ((rd_T57 l1 x16_1).f1)] 57 (0,0)) (by (with_reducible repeat (first|refine blk_drewN ?_ _|refine blk_drew ?_|refine blk_alloc ?_ _));refine blk_put (cs:=#[.string ((rd_T57 l1 x16_1).f0),.int .i64 0]) ?_ 1 _ rfl;(with_reducible repeat (first|refine blk_drewN ?_ _|refine blk_drew ?_|refine blk_alloc ?_ _));refine blk_put (cs:=#[.string (⟨#[]⟩ : ByteArray),.int .i64 0]) ?_ 0 _ rfl;(with_reducible repeat (first|refine blk_drewN ?_ _|refine blk_drew ?_|refine blk_alloc ?_ _));exact BK608.out) hb);have n1_:=Aside0.mk (below_step (by repeat (first|(with_reducible first|exact HB.out|apply below_alloc|apply pw_below_drewN|apply below_drew1|refine below_set ?_ GE608.out)|exact HB.out)) hb);clear BK608;clear HB;have BK608:=n0_;have HB:=n1_;clear n0_ n1_;(try clear hb);(try clear hb2);(try clear hk);(try clear hi);have hcz18_0 : w17.cell? ⟨gb608,0,none⟩ = some (.string ((rd_T57 l1 x16_1).f0)):=(blk_cell BK608.out 0).trans rfl;have hcz18_1 : w17.cell? ⟨gb608,1,none⟩ = some (.int .i64 ((rd_T57 l1 x16_1).f1)):=(blk_cell BK608.out 1).trans rfl;have hfz18_0:=blk_frozen BK608.out 0;have hfz18_1:=blk_frozen BK608.out 1))
   go_roundg k1
   case measure => have:=HK1.out;omega
   case rel => exact ⟨(wrap64 (x16_1 + 1)),(by first|rfl|(simp;done)|(simp [*];done)|(simp;rw [Bool.eq_iff_iff];simp;done)|(rw [Bool.eq_iff_iff];simp;done)),H',⟨by have:=HK1.out;omega⟩,⟨by repeat (first|(with_reducible first|exact HB.out|apply below_alloc|apply pw_below_drewN|apply below_drew1|refine below_set ?_ GE608.out)|exact HB.out)⟩⟩
end Go.Proofs.YtejgbdclhlolkaaGreatDoor.Q
namespace Go.Proofs.YtejgbdclhlolkaaGreatDoor.Q
open Go.RowKit Go.Proofs.YtejgbdclhlolkaaGreatDoorW.PrintWords Go.Proofs.YtejgbdclhlolkaaGreatDoorW.PrintLast Go.Proofs.YtejgbdclhlolkaaGreatDoorW.PrintMore
attribute [local go_sem] max2_int min2_int max_two min_two max_three min_three max_four min_four   -- for this text's walks alone
set_option linter.unusedVariables false
set_option linter.unusedSimpArgs false
def bursarref03_digit.f (a0 : Int) : Option (Bool) := if a0 ≥ 48 then (some (decide (a0 ≤ 57))) else (some false)
set_option maxHeartbeats 8000000 in
set_option maxRecDepth 100000 in
theorem bursarref03_digit.calls (a0 : Int) (r : Bool) (w : World) (h : bursarref03_digit.f a0 = some r) :
  Calls Tryz.prog 58 #[.int .u8 a0] w fun e w' => e = .returned (.bool r) ∧ Drawn0 w w':=by
 have H : (if a0 ≥ 48 then (some (decide (a0 ≤ 57))) else (some false)) = some r:=h
 clear h
 by_cases c2 : a0 ≥ 48
 ·rw [if_pos c2] at H
  have c2b0 : decide (48 ≤ a0) = true:=decide_eq_true c2
  clear c2
  obtain rfl:=Option.some.inj H
  go_enter Tryz.func58,Tryz.ntmps58
  go_wp2
  go_ret
  exact ⟨by first|rfl|(simp;done)|(simp [*];done),by repeat (first|exact Drawn0.refl _|apply Drawn0.step)⟩
 ·rw [if_neg c2] at H
  have c2b0 : decide (48 ≤ a0) = false:=decide_eq_false c2
  clear c2
  obtain rfl:=Option.some.inj H
  go_enter Tryz.func58,Tryz.ntmps58
  go_wp2
  go_ret
  exact ⟨by first|rfl|(simp;done)|(simp [*];done),by repeat (first|exact Drawn0.refl _|apply Drawn0.step)⟩
end Go.Proofs.YtejgbdclhlolkaaGreatDoor.Q
namespace Go.Proofs.YtejgbdclhlolkaaGreatDoor.Q
open Go.RowKit Go.Proofs.YtejgbdclhlolkaaGreatDoorW.PrintWords Go.Proofs.YtejgbdclhlolkaaGreatDoorW.PrintLast
set_option linter.unusedVariables false
set_option linter.unusedSimpArgs false
theorem w64 (i : Nat) (h : i < 9223372036854775807) : wrap64 ((i : Int) + 1) = ((i + 1 : Nat) : Int) := by
  unfold wrap64; omega
theorem bne_nil_ (l : List UInt8) : (l != ([] : List UInt8)) = !l.isEmpty := by cases l <;> rfl
end Go.Proofs.YtejgbdclhlolkaaGreatDoor.Q
namespace Go.Proofs.YtejgbdclhlolkaaGreatDoor.Q
open Go.RowKit Go.Proofs.YtejgbdclhlolkaaGreatDoorW.PrintWords Go.Proofs.YtejgbdclhlolkaaGreatDoorW.PrintLast Go.Proofs.YtejgbdclhlolkaaGreatDoorW.PrintMore
attribute [local go_sem] max2_int min2_int max_two min_two max_three min_three max_four min_four   -- for this text's walks alone
set_option linter.unusedVariables false
set_option linter.unusedSimpArgs false
def bursarref03_piece.l0 : Nat → ByteArray → Int → Option (Bool)
|0,_,_ => none
|k + 1,x0,x3 => if x3 < (x0.size : Int) then (if 0 ≤ x3 then (if (bt x0 x3) ≥ 97 then (if (bt x0 x3) ≤ 122 then (bursarref03_piece.l0 k x0 (wrap64 (x3 + 1))) else ((bursarref03_digit.f (bt x0 x3)).bind fun t710 => (if t710 = true then (bursarref03_piece.l0 k x0 (wrap64 (x3 + 1))) else (if (bt x0 x3) = 45 then (if x3 = 0 then (some false) else (if x3 = (wrap64 ((x0.size : Int) - 1)) then (some false) else (bursarref03_piece.l0 k x0 (wrap64 (x3 + 1))))) else (some false))))) else ((bursarref03_digit.f (bt x0 x3)).bind fun t711 => (if t711 = true then (bursarref03_piece.l0 k x0 (wrap64 (x3 + 1))) else (if (bt x0 x3) = 45 then (if x3 = 0 then (some false) else (if x3 = (wrap64 ((x0.size : Int) - 1)) then (some false) else (bursarref03_piece.l0 k x0 (wrap64 (x3 + 1))))) else (some false))))) else (none)) else (some (x0.toList != ([] : List UInt8)))
def bursarref03_piece.f (k : Nat) (a0 : ByteArray) : Option (Bool) := bursarref03_piece.l0 k a0 0
theorem bursarref03_piece.mono_l : ∀ k, (∀ y0 y1, LeO (bursarref03_piece.l0 k y0 y1) (bursarref03_piece.l0 (k + 1) y0 y1))
|0 => fun _ _ r h => by simp [bursarref03_piece.l0] at h
|k + 1 => by
  have ih0:=bursarref03_piece.mono_l k
  ·intro y0 y1
   unfold bursarref03_piece.l0
   repeat' first
  |(with_reducible exact ih0 _ _)
  |(with_reducible exact LeO.refl _)
  |(with_reducible exact LeO.none _)
  |(with_reducible refine LeO.ite ?_ ?_)
  |(with_reducible refine LeO.bind ?_ (fun _ => ?_))
  |exact ih0 _ _
  |exact LeO.none _
  |refine LeO.ite ?_ ?_
  |refine LeO.bind ?_ (fun _ => ?_)
theorem bursarref03_piece.mono : ∀ a0 k, LeO (bursarref03_piece.f k a0) (bursarref03_piece.f (k + 1) a0) := by
 intro a0 k
 have ih0:=bursarref03_piece.mono_l k
 unfold bursarref03_piece.f
 repeat' first
  |(with_reducible exact ih0 _ _)
  |(with_reducible exact LeO.refl _)
  |(with_reducible exact LeO.none _)
  |(with_reducible refine LeO.ite ?_ ?_)
  |(with_reducible refine LeO.bind ?_ (fun _ => ?_))
  |exact ih0 _ _
  |exact LeO.none _
  |refine LeO.ite ?_ ?_
  |refine LeO.bind ?_ (fun _ => ?_)
set_option maxHeartbeats 8000000 in
set_option maxRecDepth 100000 in
theorem bursarref03_piece.calls (k : Nat) (a0 : ByteArray) (r : Bool) (w : World) (h : bursarref03_piece.f k a0 = some r) :
  Calls Tryz.prog 98 #[.string a0] w fun e w' => e = .returned (.bool r) ∧ Drawn0 w w':=by
 have H : (bursarref03_piece.l0 k a0 0) = some r:=h
 clear h
 have H':=Aside0.mk H
 clear H
 go_enter Tryz.func98,Tryz.ntmps98
 go_wp2
 go_loopg [3] k (fun kq v3 w' => ∃ (x3_1 : Int),v3 = .int .i64 x3_1 ∧ Aside0 (bursarref03_piece.l0 kq a0 x3_1 = some r) ∧ Aside0 (kq ≤ k) ∧ Drawn0 w w')
 case atStart => exact ⟨(0),(by first|rfl|(simp;done)|(simp [*];done)|(simp;rw [Bool.eq_iff_iff];simp;done)|(rw [Bool.eq_iff_iff];simp;done)),H',⟨Nat.le_refl _⟩,by repeat (first|exact Drawn0.refl _|apply Drawn0.step)⟩
 case round =>
  clear H'
  obtain ⟨x3_1,rfl,HA,HK1,⟨m1,rfl⟩⟩:=hrel
  cases gk with
 |zero => exact absurd HA.out (by simp [bursarref03_piece.l0])
 |succ k1 =>
   have H:=HA.out
   clear HA
   simp only [bursarref03_piece.l0] at H
   by_cases c2 : x3_1 < (a0.size : Int)
   rotate_left
   ·rw [if_neg c2] at H
    have c2b0 : decide (x3_1 < (a0.size : Int)) = false:=decide_eq_false c2
    clear c2
    obtain rfl:=Option.some.inj H
    go_wp2
    go_ret
    exact ⟨by first|rfl|(simp;done)|(simp [*];done)|(rw [bne_nil_];rfl),by repeat (first|exact Drawn0.refl _|apply Drawn0.step)⟩
   rw [if_pos c2] at H
   have c2b0 : decide (x3_1 < (a0.size : Int)) = true:=decide_eq_true c2
   clear c2
   by_cases c3 : 0 ≤ x3_1
   rotate_left
   ·rw [if_neg c3] at H
    exact absurd H (by simp)
   rw [if_pos c3] at H
   have c3b0 : decide (0 ≤ x3_1) = true:=decide_eq_true c3
   clear c3
   by_cases c5 : (bt a0 x3_1) ≥ 97
   rotate_left
   ·rw [if_neg c5] at H
    have c5b0 : decide (97 ≤ (bt a0 x3_1)) = false:=decide_eq_false c5
    clear c5
    replace H:=Option.bind_eq_some_iff.mp H
    obtain ⟨t711,A120,H⟩:=H
    replace H : (if t711 = true then (bursarref03_piece.l0 k1 a0 (wrap64 (x3_1 + 1))) else (if (bt a0 x3_1) = 45 then (if x3_1 = 0 then (some false) else (if x3_1 = (wrap64 ((a0.size : Int) - 1)) then (some false) else (bursarref03_piece.l0 k1 a0 (wrap64 (x3_1 + 1))))) else (some false))) = some r:=H
    have A12:=Aside0.mk A120
    clear A120
    by_cases c13 : t711 = true
    ·subst c13
     have H1 : (bursarref03_piece.l0 k1 a0 (wrap64 (x3_1 + 1))) = some r:=by rw [if_pos rfl] at H;exact H
     clear H;have H:=H1;clear H1
     have H':=Aside0.mk H
     clear H
     have p4 : 0 ≤ (x3_1 : Int):=of_decide_eq_true (by first|(with_reducible assumption)|assumption)
     have q4 : x3_1 < (a0.size : Int):=of_decide_eq_true (by first|(with_reducible assumption)|assumption)
     have hx4:=bt_at a0 x3_1
     replace p4:=eq_true p4
     replace q4:=eq_true q4
     go_wp2_with (first|(go_at_call 58;(with_reducible refine (bursarref03_digit.calls (bt a0 x3_1) true _ A12.out).mono ?_);rintro e w' ⟨rfl,⟨nd,rfl⟩⟩))
     go_roundg k1
     case measure => have:=HK1.out;omega
     case rel => exact ⟨(wrap64 (x3_1 + 1)),(by first|rfl|(simp;done)|(simp [*];done)|(simp;rw [Bool.eq_iff_iff];simp;done)|(rw [Bool.eq_iff_iff];simp;done)),H',⟨by have:=HK1.out;omega⟩,by repeat (first|exact Drawn0.refl _|apply Drawn0.step)⟩
    replace c13:=Bool.eq_false_iff.mpr c13
    subst c13
    have H1 : (if (bt a0 x3_1) = 45 then (if x3_1 = 0 then (some false) else (if x3_1 = (wrap64 ((a0.size : Int) - 1)) then (some false) else (bursarref03_piece.l0 k1 a0 (wrap64 (x3_1 + 1))))) else (some false)) = some r:=by rw [if_neg (show ¬ (false = true) by decide)] at H;exact H
    clear H;have H:=H1;clear H1
    by_cases c14 : (bt a0 x3_1) = 45
    rotate_left
    ·rw [if_neg c14] at H
     have c14b0 : ((bt a0 x3_1) == 45) = false:=beq_eq_false_iff_ne.mpr c14
     have c14b1 : ((bt a0 x3_1) != 45) = true:=bne_iff_ne.mpr c14
     obtain rfl:=Option.some.inj H
     have p4 : 0 ≤ (x3_1 : Int):=of_decide_eq_true (by first|(with_reducible assumption)|assumption)
     have q4 : x3_1 < (a0.size : Int):=of_decide_eq_true (by first|(with_reducible assumption)|assumption)
     have hx4:=bt_at a0 x3_1
     replace p4:=eq_true p4
     replace q4:=eq_true q4
     go_wp2_with (first|(go_at_call 58;(with_reducible refine (bursarref03_digit.calls (bt a0 x3_1) false _ A12.out).mono ?_);rintro e w' ⟨rfl,⟨nd,rfl⟩⟩))
     go_ret
     exact ⟨by first|rfl|(simp;done)|(simp [*];done)|(rw [bne_nil_];rfl),by repeat (first|exact Drawn0.refl _|apply Drawn0.step)⟩
    rw [if_pos c14] at H
    have c14b0 : ((bt a0 x3_1) == 45) = true:=beq_iff_eq.mpr c14
    have c14b1 : ((bt a0 x3_1) != 45) = false:=bne_eq_false_iff_eq.mpr c14
    clear c14
    by_cases c15 : x3_1 = 0
    ·rw [if_pos c15] at H
     have c15b0 : (x3_1 == 0) = true:=beq_iff_eq.mpr c15
     have c15b1 : (x3_1 != 0) = false:=bne_eq_false_iff_eq.mpr c15
     clear c15
     obtain rfl:=Option.some.inj H
     have p4 : 0 ≤ (x3_1 : Int):=of_decide_eq_true (by first|(with_reducible assumption)|assumption)
     have q4 : x3_1 < (a0.size : Int):=of_decide_eq_true (by first|(with_reducible assumption)|assumption)
     have hx4:=bt_at a0 x3_1
     replace p4:=eq_true p4
     replace q4:=eq_true q4
     go_wp2_with (first|(go_at_call 58;(with_reducible refine (bursarref03_digit.calls (bt a0 x3_1) false _ A12.out).mono ?_);rintro e w' ⟨rfl,⟨nd,rfl⟩⟩))
     go_ret
     exact ⟨by first|rfl|(simp;done)|(simp [*];done)|(rw [bne_nil_];rfl),by repeat (first|exact Drawn0.refl _|apply Drawn0.step)⟩
    rw [if_neg c15] at H
    have c15b0 : (x3_1 == 0) = false:=beq_eq_false_iff_ne.mpr c15
    have c15b1 : (x3_1 != 0) = true:=bne_iff_ne.mpr c15
    by_cases c16 : x3_1 = (wrap64 ((a0.size : Int) - 1))
    ·rw [if_pos c16] at H
     have c16b0 : (x3_1 == (wrap64 ((a0.size : Int) - 1))) = true:=beq_iff_eq.mpr c16
     have c16b1 : (x3_1 != (wrap64 ((a0.size : Int) - 1))) = false:=bne_eq_false_iff_eq.mpr c16
     clear c16
     obtain rfl:=Option.some.inj H
     have p4 : 0 ≤ (x3_1 : Int):=of_decide_eq_true (by first|(with_reducible assumption)|assumption)
     have q4 : x3_1 < (a0.size : Int):=of_decide_eq_true (by first|(with_reducible assumption)|assumption)
     have hx4:=bt_at a0 x3_1
     replace p4:=eq_true p4
     replace q4:=eq_true q4
     go_wp2_with (first|(go_at_call 58;(with_reducible refine (bursarref03_digit.calls (bt a0 x3_1) false _ A12.out).mono ?_);rintro e w' ⟨rfl,⟨nd,rfl⟩⟩))
     go_ret
     exact ⟨by first|rfl|(simp;done)|(simp [*];done)|(rw [bne_nil_];rfl),by repeat (first|exact Drawn0.refl _|apply Drawn0.step)⟩
    rw [if_neg c16] at H
    have c16b0 : (x3_1 == (wrap64 ((a0.size : Int) - 1))) = false:=beq_eq_false_iff_ne.mpr c16
    have c16b1 : (x3_1 != (wrap64 ((a0.size : Int) - 1))) = true:=bne_iff_ne.mpr c16
    have H':=Aside0.mk H
    clear H
    have p4 : 0 ≤ (x3_1 : Int):=of_decide_eq_true (by first|(with_reducible assumption)|assumption)
    have q4 : x3_1 < (a0.size : Int):=of_decide_eq_true (by first|(with_reducible assumption)|assumption)
    have hx4:=bt_at a0 x3_1
    replace p4:=eq_true p4
    replace q4:=eq_true q4
    go_wp2_with (first|(go_at_call 58;(with_reducible refine (bursarref03_digit.calls (bt a0 x3_1) false _ A12.out).mono ?_);rintro e w' ⟨rfl,⟨nd,rfl⟩⟩))
    go_roundg k1
    case measure => have:=HK1.out;omega
    case rel => exact ⟨(wrap64 (x3_1 + 1)),(by first|rfl|(simp;done)|(simp [*];done)|(simp;rw [Bool.eq_iff_iff];simp;done)|(rw [Bool.eq_iff_iff];simp;done)),H',⟨by have:=HK1.out;omega⟩,by repeat (first|exact Drawn0.refl _|apply Drawn0.step)⟩
   rw [if_pos c5] at H
   have c5b0 : decide (97 ≤ (bt a0 x3_1)) = true:=decide_eq_true c5
   clear c5
   by_cases c6 : (bt a0 x3_1) ≤ 122
   ·rw [if_pos c6] at H
    have c6b0 : decide ((bt a0 x3_1) ≤ 122) = true:=decide_eq_true c6
    clear c6
    have H':=Aside0.mk H
    clear H
    have p4 : 0 ≤ (x3_1 : Int):=of_decide_eq_true (by first|(with_reducible assumption)|assumption)
    have q4 : x3_1 < (a0.size : Int):=of_decide_eq_true (by first|(with_reducible assumption)|assumption)
    have hx4:=bt_at a0 x3_1
    replace p4:=eq_true p4
    replace q4:=eq_true q4
    go_wp2
    go_roundg k1
    case measure => have:=HK1.out;omega
    case rel => exact ⟨(wrap64 (x3_1 + 1)),(by first|rfl|(simp;done)|(simp [*];done)|(simp;rw [Bool.eq_iff_iff];simp;done)|(rw [Bool.eq_iff_iff];simp;done)),H',⟨by have:=HK1.out;omega⟩,by repeat (first|exact Drawn0.refl _|apply Drawn0.step)⟩
   rw [if_neg c6] at H
   have c6b0 : decide ((bt a0 x3_1) ≤ 122) = false:=decide_eq_false c6
   clear c6
   replace H:=Option.bind_eq_some_iff.mp H
   obtain ⟨t710,A70,H⟩:=H
   replace H : (if t710 = true then (bursarref03_piece.l0 k1 a0 (wrap64 (x3_1 + 1))) else (if (bt a0 x3_1) = 45 then (if x3_1 = 0 then (some false) else (if x3_1 = (wrap64 ((a0.size : Int) - 1)) then (some false) else (bursarref03_piece.l0 k1 a0 (wrap64 (x3_1 + 1))))) else (some false))) = some r:=H
   have A7:=Aside0.mk A70
   clear A70
   by_cases c8 : t710 = true
   ·subst c8
    have H1 : (bursarref03_piece.l0 k1 a0 (wrap64 (x3_1 + 1))) = some r:=by rw [if_pos rfl] at H;exact H
    clear H;have H:=H1;clear H1
    have H':=Aside0.mk H
    clear H
    have p4 : 0 ≤ (x3_1 : Int):=of_decide_eq_true (by first|(with_reducible assumption)|assumption)
    have q4 : x3_1 < (a0.size : Int):=of_decide_eq_true (by first|(with_reducible assumption)|assumption)
    have hx4:=bt_at a0 x3_1
    replace p4:=eq_true p4
    replace q4:=eq_true q4
    go_wp2_with (first|(go_at_call 58;(with_reducible refine (bursarref03_digit.calls (bt a0 x3_1) true _ A7.out).mono ?_);rintro e w' ⟨rfl,⟨nd,rfl⟩⟩))
    go_roundg k1
    case measure => have:=HK1.out;omega
    case rel => exact ⟨(wrap64 (x3_1 + 1)),(by first|rfl|(simp;done)|(simp [*];done)|(simp;rw [Bool.eq_iff_iff];simp;done)|(rw [Bool.eq_iff_iff];simp;done)),H',⟨by have:=HK1.out;omega⟩,by repeat (first|exact Drawn0.refl _|apply Drawn0.step)⟩
   replace c8:=Bool.eq_false_iff.mpr c8
   subst c8
   have H1 : (if (bt a0 x3_1) = 45 then (if x3_1 = 0 then (some false) else (if x3_1 = (wrap64 ((a0.size : Int) - 1)) then (some false) else (bursarref03_piece.l0 k1 a0 (wrap64 (x3_1 + 1))))) else (some false)) = some r:=by rw [if_neg (show ¬ (false = true) by decide)] at H;exact H
   clear H;have H:=H1;clear H1
   by_cases c9 : (bt a0 x3_1) = 45
   rotate_left
   ·rw [if_neg c9] at H
    have c9b0 : ((bt a0 x3_1) == 45) = false:=beq_eq_false_iff_ne.mpr c9
    have c9b1 : ((bt a0 x3_1) != 45) = true:=bne_iff_ne.mpr c9
    obtain rfl:=Option.some.inj H
    have p4 : 0 ≤ (x3_1 : Int):=of_decide_eq_true (by first|(with_reducible assumption)|assumption)
    have q4 : x3_1 < (a0.size : Int):=of_decide_eq_true (by first|(with_reducible assumption)|assumption)
    have hx4:=bt_at a0 x3_1
    replace p4:=eq_true p4
    replace q4:=eq_true q4
    go_wp2_with (first|(go_at_call 58;(with_reducible refine (bursarref03_digit.calls (bt a0 x3_1) false _ A7.out).mono ?_);rintro e w' ⟨rfl,⟨nd,rfl⟩⟩))
    go_ret
    exact ⟨by first|rfl|(simp;done)|(simp [*];done)|(rw [bne_nil_];rfl),by repeat (first|exact Drawn0.refl _|apply Drawn0.step)⟩
   rw [if_pos c9] at H
   have c9b0 : ((bt a0 x3_1) == 45) = true:=beq_iff_eq.mpr c9
   have c9b1 : ((bt a0 x3_1) != 45) = false:=bne_eq_false_iff_eq.mpr c9
   clear c9
   by_cases c10 : x3_1 = 0
   ·rw [if_pos c10] at H
    have c10b0 : (x3_1 == 0) = true:=beq_iff_eq.mpr c10
    have c10b1 : (x3_1 != 0) = false:=bne_eq_false_iff_eq.mpr c10
    clear c10
    obtain rfl:=Option.some.inj H
    have p4 : 0 ≤ (x3_1 : Int):=of_decide_eq_true (by first|(with_reducible assumption)|assumption)
    have q4 : x3_1 < (a0.size : Int):=of_decide_eq_true (by first|(with_reducible assumption)|assumption)
    have hx4:=bt_at a0 x3_1
    replace p4:=eq_true p4
    replace q4:=eq_true q4
    go_wp2_with (first|(go_at_call 58;(with_reducible refine (bursarref03_digit.calls (bt a0 x3_1) false _ A7.out).mono ?_);rintro e w' ⟨rfl,⟨nd,rfl⟩⟩))
    go_ret
    exact ⟨by first|rfl|(simp;done)|(simp [*];done)|(rw [bne_nil_];rfl),by repeat (first|exact Drawn0.refl _|apply Drawn0.step)⟩
   rw [if_neg c10] at H
   have c10b0 : (x3_1 == 0) = false:=beq_eq_false_iff_ne.mpr c10
   have c10b1 : (x3_1 != 0) = true:=bne_iff_ne.mpr c10
   by_cases c11 : x3_1 = (wrap64 ((a0.size : Int) - 1))
   ·rw [if_pos c11] at H
    have c11b0 : (x3_1 == (wrap64 ((a0.size : Int) - 1))) = true:=beq_iff_eq.mpr c11
    have c11b1 : (x3_1 != (wrap64 ((a0.size : Int) - 1))) = false:=bne_eq_false_iff_eq.mpr c11
    clear c11
    obtain rfl:=Option.some.inj H
    have p4 : 0 ≤ (x3_1 : Int):=of_decide_eq_true (by first|(with_reducible assumption)|assumption)
    have q4 : x3_1 < (a0.size : Int):=of_decide_eq_true (by first|(with_reducible assumption)|assumption)
    have hx4:=bt_at a0 x3_1
    replace p4:=eq_true p4
    replace q4:=eq_true q4
    go_wp2_with (first|(go_at_call 58;(with_reducible refine (bursarref03_digit.calls (bt a0 x3_1) false _ A7.out).mono ?_);rintro e w' ⟨rfl,⟨nd,rfl⟩⟩))
    go_ret
    exact ⟨by first|rfl|(simp;done)|(simp [*];done)|(rw [bne_nil_];rfl),by repeat (first|exact Drawn0.refl _|apply Drawn0.step)⟩
   rw [if_neg c11] at H
   have c11b0 : (x3_1 == (wrap64 ((a0.size : Int) - 1))) = false:=beq_eq_false_iff_ne.mpr c11
   have c11b1 : (x3_1 != (wrap64 ((a0.size : Int) - 1))) = true:=bne_iff_ne.mpr c11
   have H':=Aside0.mk H
   clear H
   have p4 : 0 ≤ (x3_1 : Int):=of_decide_eq_true (by first|(with_reducible assumption)|assumption)
   have q4 : x3_1 < (a0.size : Int):=of_decide_eq_true (by first|(with_reducible assumption)|assumption)
   have hx4:=bt_at a0 x3_1
   replace p4:=eq_true p4
   replace q4:=eq_true q4
   go_wp2_with (first|(go_at_call 58;(with_reducible refine (bursarref03_digit.calls (bt a0 x3_1) false _ A7.out).mono ?_);rintro e w' ⟨rfl,⟨nd,rfl⟩⟩))
   go_roundg k1
   case measure => have:=HK1.out;omega
   case rel => exact ⟨(wrap64 (x3_1 + 1)),(by first|rfl|(simp;done)|(simp [*];done)|(simp;rw [Bool.eq_iff_iff];simp;done)|(rw [Bool.eq_iff_iff];simp;done)),H',⟨by have:=HK1.out;omega⟩,by repeat (first|exact Drawn0.refl _|apply Drawn0.step)⟩
end Go.Proofs.YtejgbdclhlolkaaGreatDoor.Q
namespace Go.Proofs.YtejgbdclhlolkaaGreatDoor.Q
open Go.RowKit Go.Proofs.YtejgbdclhlolkaaGreatDoorW.PrintWords Go.Proofs.YtejgbdclhlolkaaGreatDoorW.PrintLast Go.Proofs.YtejgbdclhlolkaaGreatDoorW.PrintMore
attribute [local go_sem] max2_int min2_int max_two min_two max_three min_three max_four min_four   -- for this text's walks alone
set_option linter.unusedVariables false
set_option linter.unusedSimpArgs false
def bursarref03_Resource.l0 : Nat → ByteArray → Int → Int → Option (Bool)
|0,_,_,_ => none
|k + 1,x0,x3,x4 => if x4 < (x0.size : Int) then (if 0 ≤ x4 then (if (bt x0 x4) = 46 then (if 0 ≤ x3 then (if x3 ≤ x4 then (if x4 ≤ (x0.size : Int) then ((bursarref03_piece.f k (x0.extract (x3 : Int).toNat (x4 : Int).toNat)).bind fun t713 => (if t713 = true then (bursarref03_Resource.l0 k x0 (wrap64 (x4 + 1)) (wrap64 (x4 + 1))) else (some false))) else (none)) else (none)) else (none)) else (bursarref03_Resource.l0 k x0 x3 (wrap64 (x4 + 1)))) else (none)) else (if (x0.size : Int) ≤ 48 then (if 0 ≤ x3 then (if x3 ≤ (x0.size : Int) then ((bursarref03_piece.f k (x0.extract (x3 : Int).toNat x0.size)).bind fun t712 => (some t712)) else (none)) else (none)) else (some false))
def bursarref03_Resource.f (k : Nat) (a0 : ByteArray) : Option (Bool) := bursarref03_Resource.l0 k a0 0 0
theorem bursarref03_Resource.mono_l : ∀ k, (∀ y0 y1 y2, LeO (bursarref03_Resource.l0 k y0 y1 y2) (bursarref03_Resource.l0 (k + 1) y0 y1 y2))
|0 => fun _ _ _ r h => by simp [bursarref03_Resource.l0] at h
|k + 1 => by
  have ih0:=bursarref03_Resource.mono_l k
  ·intro y0 y1 y2
   unfold bursarref03_Resource.l0
   repeat' first
  |(with_reducible exact ih0 _ _ _)
  |(with_reducible exact bursarref03_piece.mono _ _)
  |(with_reducible exact LeO.refl _)
  |(with_reducible exact LeO.none _)
  |(with_reducible refine LeO.ite ?_ ?_)
  |(with_reducible refine LeO.bind ?_ (fun _ => ?_))
  |exact ih0 _ _ _
  |exact bursarref03_piece.mono _ _
  |exact LeO.none _
  |refine LeO.ite ?_ ?_
  |refine LeO.bind ?_ (fun _ => ?_)
theorem bursarref03_Resource.mono : ∀ a0 k, LeO (bursarref03_Resource.f k a0) (bursarref03_Resource.f (k + 1) a0) := by
 intro a0 k
 have ih0:=bursarref03_Resource.mono_l k
 unfold bursarref03_Resource.f
 repeat' first
  |(with_reducible exact ih0 _ _ _)
  |(with_reducible exact bursarref03_piece.mono _ _)
  |(with_reducible exact LeO.refl _)
  |(with_reducible exact LeO.none _)
  |(with_reducible refine LeO.ite ?_ ?_)
  |(with_reducible refine LeO.bind ?_ (fun _ => ?_))
  |exact ih0 _ _ _
  |exact bursarref03_piece.mono _ _
  |exact LeO.none _
  |refine LeO.ite ?_ ?_
  |refine LeO.bind ?_ (fun _ => ?_)
set_option maxHeartbeats 8000000 in
set_option maxRecDepth 100000 in
theorem bursarref03_Resource.calls (k : Nat) (a0 : ByteArray) (r : Bool) (w : World) (h : bursarref03_Resource.f k a0 = some r) :
  Calls Tryz.prog 75 #[.string a0] w fun e w' => e = .returned (.bool r) ∧ Drawn0 w w':=by
 have H : (bursarref03_Resource.l0 k a0 0 0) = some r:=h
 clear h
 have H':=Aside0.mk H
 clear H
 go_enter Tryz.func75,Tryz.ntmps75
 go_wp2
 go_loopg [3,4] k (fun kq v3 v4 w' => ∃ (x3_1 : Int) (x4_1 : Int),v3 = .int .i64 x3_1 ∧ v4 = .int .i64 x4_1 ∧ Aside0 (bursarref03_Resource.l0 kq a0 x3_1 x4_1 = some r) ∧ Aside0 (kq ≤ k) ∧ Drawn0 w w')
 case atStart => exact ⟨(0),(0),(by first|rfl|(simp;done)|(simp [*];done)|(simp;rw [Bool.eq_iff_iff];simp;done)|(rw [Bool.eq_iff_iff];simp;done)),(by first|rfl|(simp;done)|(simp [*];done)|(simp;rw [Bool.eq_iff_iff];simp;done)|(rw [Bool.eq_iff_iff];simp;done)),H',⟨Nat.le_refl _⟩,by repeat (first|exact Drawn0.refl _|apply Drawn0.step)⟩
 case round =>
  clear H'
  obtain ⟨x3_1,x4_1,rfl,rfl,HA,HK1,⟨m1,rfl⟩⟩:=hrel
  cases gk with
 |zero => exact absurd HA.out (by simp [bursarref03_Resource.l0])
 |succ k1 =>
   have H:=HA.out
   clear HA
   simp only [bursarref03_Resource.l0] at H
   by_cases c2 : x4_1 < (a0.size : Int)
   rotate_left
   ·rw [if_neg c2] at H
    have c2b0 : decide (x4_1 < (a0.size : Int)) = false:=decide_eq_false c2
    clear c2
    by_cases c11 : (a0.size : Int) ≤ 48
    rotate_left
    ·rw [if_neg c11] at H
     have c11b0 : decide ((a0.size : Int) ≤ 48) = false:=decide_eq_false c11
     have c11b1 : decide (a0.size ≤ 48) = false:=decide_eq_false (by omega)
     clear c11
     obtain rfl:=Option.some.inj H
     go_wp2
     go_ret
     exact ⟨by first|rfl|(simp;done)|(simp [*];done),by repeat (first|exact Drawn0.refl _|apply Drawn0.step)⟩
    rw [if_pos c11] at H
    have c11b0 : decide ((a0.size : Int) ≤ 48) = true:=decide_eq_true c11
    have c11b1 : decide (a0.size ≤ 48) = true:=decide_eq_true (by omega)
    clear c11
    by_cases c12 : 0 ≤ x3_1
    rotate_left
    ·rw [if_neg c12] at H
     exact absurd H (by simp)
    rw [if_pos c12] at H
    have c12b0:=eq_true c12
    have c12b1 : decide (0 ≤ x3_1) = true:=decide_eq_true c12
    clear c12
    by_cases c13 : x3_1 ≤ (a0.size : Int)
    rotate_left
    ·rw [if_neg c13] at H
     exact absurd H (by simp)
    rw [if_pos c13] at H
    have c13b0:=eq_true c13
    have c13b1 : decide (x3_1 ≤ (a0.size : Int)) = true:=decide_eq_true c13
    clear c13
    replace H:=Option.bind_eq_some_iff.mp H
    obtain ⟨t712,A140,H⟩:=H
    replace H : (some t712) = some r:=H
    have A14:=Aside0.mk A140
    clear A140
    obtain rfl:=Option.some.inj H
    go_wp2_with (first|(go_at_call 98;(with_reducible refine (bursarref03_piece.calls k1 (a0.extract (x3_1 : Int).toNat a0.size) t712 _ A14.out).mono ?_);rintro e w' ⟨rfl,⟨nd,rfl⟩⟩))
    go_ret
    exact ⟨by first|rfl|(simp;done)|(simp [*];done),by repeat (first|exact Drawn0.refl _|apply Drawn0.step)⟩
   rw [if_pos c2] at H
   have c2b0 : decide (x4_1 < (a0.size : Int)) = true:=decide_eq_true c2
   clear c2
   by_cases c3 : 0 ≤ x4_1
   rotate_left
   ·rw [if_neg c3] at H
    exact absurd H (by simp)
   rw [if_pos c3] at H
   have c3b0 : decide (0 ≤ x4_1) = true:=decide_eq_true c3
   clear c3
   by_cases c5 : (bt a0 x4_1) = 46
   rotate_left
   ·rw [if_neg c5] at H
    have c5b0 : ((bt a0 x4_1) == 46) = false:=beq_eq_false_iff_ne.mpr c5
    have c5b1 : ((bt a0 x4_1) != 46) = true:=bne_iff_ne.mpr c5
    have H':=Aside0.mk H
    clear H
    have p4 : 0 ≤ (x4_1 : Int):=of_decide_eq_true (by first|(with_reducible assumption)|assumption)
    have q4 : x4_1 < (a0.size : Int):=of_decide_eq_true (by first|(with_reducible assumption)|assumption)
    have hx4:=bt_at a0 x4_1
    replace p4:=eq_true p4
    replace q4:=eq_true q4
    go_wp2
    go_roundg k1
    case measure => have:=HK1.out;omega
    case rel => exact ⟨(x3_1),(wrap64 (x4_1 + 1)),(by first|rfl|(simp;done)|(simp [*];done)|(simp;rw [Bool.eq_iff_iff];simp;done)|(rw [Bool.eq_iff_iff];simp;done)),(by first|rfl|(simp;done)|(simp [*];done)|(simp;rw [Bool.eq_iff_iff];simp;done)|(rw [Bool.eq_iff_iff];simp;done)),H',⟨by have:=HK1.out;omega⟩,by repeat (first|exact Drawn0.refl _|apply Drawn0.step)⟩
   rw [if_pos c5] at H
   have c5b0 : ((bt a0 x4_1) == 46) = true:=beq_iff_eq.mpr c5
   have c5b1 : ((bt a0 x4_1) != 46) = false:=bne_eq_false_iff_eq.mpr c5
   clear c5
   by_cases c6 : 0 ≤ x3_1
   rotate_left
   ·rw [if_neg c6] at H
    exact absurd H (by simp)
   rw [if_pos c6] at H
   have c6b0:=eq_true c6
   have c6b1 : decide (0 ≤ x3_1) = true:=decide_eq_true c6
   clear c6
   by_cases c7 : x3_1 ≤ x4_1
   rotate_left
   ·rw [if_neg c7] at H
    exact absurd H (by simp)
   rw [if_pos c7] at H
   have c7b0:=eq_true c7
   have c7b1 : decide (x3_1 ≤ x4_1) = true:=decide_eq_true c7
   clear c7
   by_cases c8 : x4_1 ≤ (a0.size : Int)
   rotate_left
   ·rw [if_neg c8] at H
    exact absurd H (by simp)
   rw [if_pos c8] at H
   have c8b0:=eq_true c8
   have c8b1 : decide (x4_1 ≤ (a0.size : Int)) = true:=decide_eq_true c8
   clear c8
   replace H:=Option.bind_eq_some_iff.mp H
   obtain ⟨t713,A90,H⟩:=H
   replace H : (if t713 = true then (bursarref03_Resource.l0 k1 a0 (wrap64 (x4_1 + 1)) (wrap64 (x4_1 + 1))) else (some false)) = some r:=H
   have A9:=Aside0.mk A90
   clear A90
   by_cases c10 : t713 = true
   rotate_left
   ·replace c10:=Bool.eq_false_iff.mpr c10
    subst c10
    have H1 : (some false) = some r:=by rw [if_neg (show ¬ (false = true) by decide)] at H;exact H
    clear H;have H:=H1;clear H1
    obtain rfl:=Option.some.inj H
    have p4 : 0 ≤ (x4_1 : Int):=of_decide_eq_true (by first|(with_reducible assumption)|assumption)
    have q4 : x4_1 < (a0.size : Int):=of_decide_eq_true (by first|(with_reducible assumption)|assumption)
    have hx4:=bt_at a0 x4_1
    replace p4:=eq_true p4
    replace q4:=eq_true q4
    go_wp2_with (first|((with_reducible refine gate_callee (f:=98) rfl ?_);refine goesL_ (some 19) rfl rfl Tryz.func98 (by kernel_rfl) rfl #[.string (a0.extract (x3_1 : Int).toNat (x4_1 : Int).toNat)] rfl (by (try simp only [List.map_toArray,List.map_cons,List.map_nil]);first|done|rfl|(simp only [List.length_drop,List.length_take];rfl)) ?_;(with_reducible refine (bursarref03_piece.calls k1 (a0.extract (x3_1 : Int).toNat (x4_1 : Int).toNat) false _ A9.out).mono ?_);rintro e w' ⟨rfl,⟨nd,rfl⟩⟩;refine ⟨_,rfl,?_⟩))
    go_ret
    exact ⟨by first|rfl|(simp;done)|(simp [*];done),by repeat (first|exact Drawn0.refl _|apply Drawn0.step)⟩
   subst c10
   have H1 : (bursarref03_Resource.l0 k1 a0 (wrap64 (x4_1 + 1)) (wrap64 (x4_1 + 1))) = some r:=by rw [if_pos rfl] at H;exact H
   clear H;have H:=H1;clear H1
   have H':=Aside0.mk H
   clear H
   have p4 : 0 ≤ (x4_1 : Int):=of_decide_eq_true (by first|(with_reducible assumption)|assumption)
   have q4 : x4_1 < (a0.size : Int):=of_decide_eq_true (by first|(with_reducible assumption)|assumption)
   have hx4:=bt_at a0 x4_1
   replace p4:=eq_true p4
   replace q4:=eq_true q4
   go_wp2_with (first|((with_reducible refine gate_callee (f:=98) rfl ?_);refine goesL_ (some 19) rfl rfl Tryz.func98 (by kernel_rfl) rfl #[.string (a0.extract (x3_1 : Int).toNat (x4_1 : Int).toNat)] rfl (by (try simp only [List.map_toArray,List.map_cons,List.map_nil]);first|done|rfl|(simp only [List.length_drop,List.length_take];rfl)) ?_;(with_reducible refine (bursarref03_piece.calls k1 (a0.extract (x3_1 : Int).toNat (x4_1 : Int).toNat) true _ A9.out).mono ?_);rintro e w' ⟨rfl,⟨nd,rfl⟩⟩;refine ⟨_,rfl,?_⟩))
   go_roundg k1
   case measure => have:=HK1.out;omega
   case rel => exact ⟨(wrap64 (x4_1 + 1)),(wrap64 (x4_1 + 1)),(by first|rfl|(simp;done)|(simp [*];done)|(simp;rw [Bool.eq_iff_iff];simp;done)|(rw [Bool.eq_iff_iff];simp;done)),(by first|rfl|(simp;done)|(simp [*];done)|(simp;rw [Bool.eq_iff_iff];simp;done)|(rw [Bool.eq_iff_iff];simp;done)),H',⟨by have:=HK1.out;omega⟩,by repeat (first|exact Drawn0.refl _|apply Drawn0.step)⟩
end Go.Proofs.YtejgbdclhlolkaaGreatDoor.Q
namespace Go.Proofs.YtejgbdclhlolkaaGreatDoor.Q
open Go.RowKit Go.Proofs.YtejgbdclhlolkaaGreatDoorW.PrintWords Go.Proofs.YtejgbdclhlolkaaGreatDoorW.PrintLast Go.Proofs.YtejgbdclhlolkaaGreatDoorW.PrintMore
attribute [local go_sem] binOp_leq_ binOp_gtr_ binOp_geq_ max2_int min2_int max_two min_two max_three min_three max_four min_four   -- for this text's walks alone
set_option linter.unusedVariables false
set_option linter.unusedSimpArgs false
def bursarref03_Valid.l0 : Nat → List (S57) → Int → Option (Int)
|0,_,_ => none
|k + 1,x0,x3 => if x3 < (x0.length : Int) then (if 0 ≤ x3 then ((bursarref03_Resource.f k ((rd_T57 x0 x3).f0)).bind fun t715 => (if t715 = true then (if ((rd_T57 x0 x3).f1) < 0 then (some 31) else (if x3 > 0 then (if 0 ≤ (wrap64 (x3 - 1)) then (if (wrap64 (x3 - 1)) < (x0.length : Int) then (if ((Op.bytesLess (((rd_T57 x0 (wrap64 (x3 - 1))).f0).toList) (((rd_T57 x0 x3).f0).toList)) = true) then (bursarref03_Valid.l0 k x0 (wrap64 (x3 + 1))) else (some 31)) else (none)) else (none)) else (bursarref03_Valid.l0 k x0 (wrap64 (x3 + 1))))) else (some 31))) else (none)) else (some 0)
def bursarref03_Valid.f (k : Nat) (l0 : List (S57)) : Option (Int) := if (l0.length : Int) > 16 then (some 23) else (bursarref03_Valid.l0 k l0 0)
theorem bursarref03_Valid.mono_l : ∀ k, (∀ y0 y1, LeO (bursarref03_Valid.l0 k y0 y1) (bursarref03_Valid.l0 (k + 1) y0 y1))
|0 => fun _ _ r h => by simp [bursarref03_Valid.l0] at h
|k + 1 => by
  have ih0:=bursarref03_Valid.mono_l k
  ·intro y0 y1
   unfold bursarref03_Valid.l0
   repeat' first
  |(with_reducible exact ih0 _ _)
  |(with_reducible exact bursarref03_Resource.mono _ _)
  |(with_reducible exact LeO.refl _)
  |(with_reducible exact LeO.none _)
  |(with_reducible refine LeO.ite ?_ ?_)
  |(with_reducible refine LeO.bind ?_ (fun _ => ?_))
  |exact ih0 _ _
  |exact bursarref03_Resource.mono _ _
  |exact LeO.none _
  |refine LeO.ite ?_ ?_
  |refine LeO.bind ?_ (fun _ => ?_)
theorem bursarref03_Valid.mono : ∀ a0 k, LeO (bursarref03_Valid.f k a0) (bursarref03_Valid.f (k + 1) a0) := by
 intro a0 k
 have ih0:=bursarref03_Valid.mono_l k
 unfold bursarref03_Valid.f
 repeat' first
  |(with_reducible exact ih0 _ _)
  |(with_reducible exact bursarref03_Resource.mono _ _)
  |(with_reducible exact LeO.refl _)
  |(with_reducible exact LeO.none _)
  |(with_reducible refine LeO.ite ?_ ?_)
  |(with_reducible refine LeO.bind ?_ (fun _ => ?_))
  |exact ih0 _ _
  |exact bursarref03_Resource.mono _ _
  |exact LeO.none _
  |refine LeO.ite ?_ ?_
  |refine LeO.bind ?_ (fun _ => ?_)
def bursarref03_Valid.T6 : Bool × List (List Nat × List Nat) := (true, [([], []), ([], []), ([0, 1], [0, 1]), ([2], [2]), ([3], [3]), ([4], [4]), ([5], [5]), ([6, 5], [6]), ([7], [7]), ([7], [7]), ([8, 9, 7], [7, 8, 9]), ([10, 7], [7, 10]), ([11, 7], [7, 11]), ([12, 7], [7, 12]), ([7, 13], [7, 13]), ([14, 7], [14]), ([15], [15]), ([16, 15], [15, 16]), ([17, 15, 15], [15, 17]), ([18], [18]), ([18], [18]), ([19, 20, 18], [18, 19, 20]), ([21, 18], [18, 21]), ([22, 18], [18, 22]), ([18], [18]), ([18], [18]), ([25, 18], [18, 25]), ([24, 26, 18], [18, 24, 26]), ([27, 18], [18, 27]), ([28, 18], [18, 28]), ([23, 29, 18], [18, 23, 29]), ([18, 30, 15], [15, 18, 30]), ([15, 31], [15, 31])])
def bursarref03_Valid.B6 : List Nat := [0, 0, 3, 7, 15, 31, 63, 127, 255, 255, 1023, 2047, 4095, 8191, 16383, 32767, 65535, 131071, 262143, 524287, 524287, 2097151, 4194303, 8388607, 524287, 524287, 34078719, 117964799, 252182527, 520617983, 1073741823, 2147483647, 4294967295]
theorem bursarref03_Valid.tab6 : rtab .any (opsOf Tryz.f45 6) = bursarref03_Valid.T6 := by kernel_rfl
theorem bursarref03_Valid.bits6 : waitsOk bursarref03_Valid.T6.2 bursarref03_Valid.B6 = true := by kernel_rfl
set_option maxHeartbeats 8000000 in
set_option maxRecDepth 100000 in
theorem bursarref03_Valid.calls (k : Nat) (A0 : Option Addr) (c0 : Nat) (l0 : List (S57)) (r : Int) (w : World) (hr0 : Kd.C k57 w A0 l0.length l0) (hc0 : l0.length ≤ c0) (h : bursarref03_Valid.f k l0 = some r) :
  Calls Tryz.prog 45 #[.slice A0 l0.length c0] w fun e w' => e = .returned (.int .i64 r) ∧ Below w.heap.size w w':=by
 have HR0:=Aside0.mk hr0
 have HC0:=Aside0.mk hc0
 clear hr0 hc0
 have HB:=Aside0.mk (Below.refl w.heap.size w)
 have H : (if (l0.length : Int) > 16 then (some 23) else (bursarref03_Valid.l0 k l0 0)) = some r:=h
 clear h
 by_cases c2 : (l0.length : Int) > 16
 ·rw [if_pos c2] at H
  have c2b0 : decide (16 < (l0.length : Int)) = true:=decide_eq_true c2
  have c2b1 : decide (16 < l0.length) = true:=decide_eq_true (by omega)
  clear c2
  obtain rfl:=Option.some.inj H
  go_enter Tryz.func45,Tryz.ntmps45
  go_wp2
  go_ret
  exact ⟨by first|rfl|(simp [errW_none,errW_some] <;> rfl)|(simp [*,errW_none,errW_some] <;> rfl),by repeat (first|(with_reducible first|exact HB.out|apply below_alloc|apply pw_below_drewN|apply below_drew1)|exact HB.out)⟩
 rw [if_neg c2] at H
 have c2b0 : decide (16 < (l0.length : Int)) = false:=decide_eq_false c2
 have c2b1 : decide (16 < l0.length) = false:=decide_eq_false (by omega)
 clear c2
 have H':=Aside0.mk H
 clear H
 go_enter Tryz.func45,Tryz.ntmps45
 go_wp2
 go_loopg [3] k (fun kq v3 w' => ∃ (x3_1 : Int),v3 = .int .i64 x3_1 ∧ Aside0 (bursarref03_Valid.l0 kq l0 x3_1 = some r) ∧ Aside0 (kq ≤ k) ∧ Aside0 (Below w.heap.size w w'))
 case atStart => exact ⟨(0),(by first|rfl|(simp;done)|(simp [*];done)|(simp;rw [Bool.eq_iff_iff];simp;done)|(rw [Bool.eq_iff_iff];simp;done)),H',⟨Nat.le_refl _⟩,⟨by repeat (first|(with_reducible first|exact HB.out|apply below_alloc|apply pw_below_drewN|apply below_drew1)|exact HB.out)⟩⟩
 case round =>
  clear H';(try clear c2);(try clear c2b0);(try clear c2b1);(try clear p2)
  obtain ⟨x3_1,rfl,HA,HK1,HB⟩:=hrel
  cases gk with
 |zero => exact absurd HA.out (by simp [bursarref03_Valid.l0])
 |succ k1 =>
   have H:=HA.out
   clear HA
   simp only [bursarref03_Valid.l0] at H
   by_cases c3 : x3_1 < (l0.length : Int)
   rotate_left
   ·rw [if_neg c3] at H
    have c3b0 : decide (x3_1 < (l0.length : Int)) = false:=decide_eq_false c3
    clear c3
    obtain rfl:=Option.some.inj H
    go_wp2
    go_ret
    exact ⟨by first|rfl|(simp [errW_none,errW_some] <;> rfl)|(simp [*,errW_none,errW_some] <;> rfl),by repeat (first|(with_reducible first|exact HB.out|apply below_alloc|apply pw_below_drewN|apply below_drew1)|exact HB.out)⟩
   rw [if_pos c3] at H
   have c3b0 : decide (x3_1 < (l0.length : Int)) = true:=decide_eq_true c3
   clear c3
   by_cases c4 : 0 ≤ x3_1
   rotate_left
   ·rw [if_neg c4] at H
    exact absurd H (by simp)
   rw [if_pos c4] at H
   have c4b0 : decide (0 ≤ x3_1) = true:=decide_eq_true c4
   clear c4
   replace H:=Option.bind_eq_some_iff.mp H
   obtain ⟨t715,A50,H⟩:=H
   replace H : (if t715 = true then (if ((rd_T57 l0 x3_1).f1) < 0 then (some 31) else (if x3_1 > 0 then (if 0 ≤ (wrap64 (x3_1 - 1)) then (if (wrap64 (x3_1 - 1)) < (l0.length : Int) then (if ((Op.bytesLess (((rd_T57 l0 (wrap64 (x3_1 - 1))).f0).toList) (((rd_T57 l0 x3_1).f0).toList)) = true) then (bursarref03_Valid.l0 k1 l0 (wrap64 (x3_1 + 1))) else (some 31)) else (none)) else (none)) else (bursarref03_Valid.l0 k1 l0 (wrap64 (x3_1 + 1))))) else (some 31)) = some r:=H
   have A5:=Aside0.mk A50
   clear A50
   by_cases c6 : t715 = true
   rotate_left
   ·replace c6:=Bool.eq_false_iff.mpr c6
    subst c6
    have H1 : (some 31) = some r:=by rw [if_neg (show ¬ (false = true) by decide)] at H;exact H
    clear H;have H:=H1;clear H1
    obtain rfl:=Option.some.inj H
    try go_wp2
    have n0_:=Aside0.mk (below_drew1 HB.out)
    clear HB;have HB:=n0_;clear n0_
    have p714 : 0 ≤ (x3_1 : Int):=of_decide_eq_true (by first|(with_reducible assumption)|assumption)
    have q714 : x3_1 < (l0.length : Int):=of_decide_eq_true (by first|(with_reducible assumption)|assumption)
    obtain ⟨ad714,e714,hx714_0,hx714_1⟩:=at_T57 HR0.out x3_1 p714 q714
    have hw714_1:=hx714_1;have hw714_0:=hx714_0
    cases e714
    replace hx714_0:=(HB.out.cell (World.block_lt_of_cell? w _ hx714_0)).trans hx714_0
    replace hx714_1:=(HB.out.cell (World.block_lt_of_cell? w _ hx714_1)).trans hx714_1
    replace p714:=eq_true p714
    replace q714:=eq_true q714
    refine start_ (n:=33) (S:=fun w' => w'.cell? (ad714.add ((x3_1).toNat * 2)) = some (.string ((rd_T57 l0 x3_1).f0)) ∧ w'.cell? ⟨(ad714.add ((x3_1).toNat * 2)).block,(ad714.add ((x3_1).toNat * 2)).off + 1,none⟩ = some (.int .i64 ((rd_T57 l0 x3_1).f1))) (ds:=[]) (bl 0 33) (by kernel_rfl) rfl rfl ⟨((HB.out.cell (World.block_lt_of_cell? w _ hw714_0)).trans hw714_0),((HB.out.cell (World.block_lt_of_cell? w _ hw714_1)).trans hw714_1)⟩ (fun hHeld => ?_);refine with_tabW bursarref03_Valid.tab6 bursarref03_Valid.bits6 (fun HT_ HW_ => ?_)
    generalize wr.drew = w17 at HB hx714_0 hx714_1 hHeld ⊢
    refine pure_ (i:=0) (N:=some 13) (v:=?_) (a':=?_) (bl 1 32) rfl rfl (any_of HT_.out (by kernel_rfl)) (fun _ _ _ h => h) (Or.inl ⟨by rfl,?_⟩) ?_ ?_
    rotate_left;·intro w';go_simp;with_reducible rfl
    rotate_left;·simp only [pu_];rfl
    refine pure_ (i:=1) (N:=some 14) (v:=?_) (a':=?_) (bl 2 31) rfl rfl (any_of HT_.out (by kernel_rfl)) (fun _ _ _ h => h) (Or.inl ⟨by rfl,?_⟩) ?_ ?_
    rotate_left;·intro w';go_simp;with_reducible rfl
    rotate_left;·simp only [pu_];rfl
    refine pure_ (i:=2) (N:=some 15) (v:=?_) (a':=?_) (bl 3 30) rfl rfl (any_of HT_.out (by kernel_rfl)) (fun _ _ _ h => h) (Or.inl ⟨by rfl,?_⟩) ?_ ?_
    rotate_left;·intro w';go_simp;with_reducible rfl
    rotate_left;·simp only [pu_];rfl
    refine pure_ (i:=3) (N:=some 16) (v:=?_) (a':=?_) (bl 4 29) rfl rfl (any_of HT_.out (by kernel_rfl)) (fun _ _ _ h => h) (Or.inl ⟨by rfl,?_⟩) ?_ ?_
    rotate_left;·intro w';go_simp;with_reducible rfl
    rotate_left;·simp only [pu_];rfl
    refine take_ (i:=4) (N:=some 17) (v:=?_) (a':=?_) (bl 5 28) rfl rfl (take_ofW HT_.out HW_.out (by kernel_rfl)) (fun _ _ _ h => h) (Or.inl ⟨by rfl,?_⟩) hHeld ?_ ?_
    rotate_left
    ·rintro w' ⟨s0,s1⟩
     go_simp
     with_reducible rfl
    rotate_left
    ·simp only [pu_]
     rfl
    refine one_ (i:=5) (N:=some 18) (bl 6 27) rfl rfl (one_of HT_.out (by kernel_rfl)) (by decide) (fun K hK => ?_)
    refine goes_ Tryz.func75 (by kernel_rfl) rfl #[.string ((rd_T57 l0 x3_1).f0)] (by rfl) rfl rfl (by (try simp only [List.map_toArray,List.map_cons,List.map_nil]);first|done|rfl|(simp only [List.length_drop,List.length_take];rfl)) ?_
    with_reducible refine (bursarref03_Resource.calls k1 ((rd_T57 l0 x3_1).f0) false _ A5.out).mono ?_
    rintro e w' ⟨rfl,⟨nd,rfl⟩⟩
    refine ⟨_,rfl,?_⟩
    refine hK.out _ _ ⟨((HB.out.cell (World.block_lt_of_cell? w _ hw714_0)).trans hw714_0),((HB.out.cell (World.block_lt_of_cell? w _ hw714_1)).trans hw714_1)⟩ (fun hHeld => ?_)
    clear hK K
    refine norm_ (a':=?_) ?_ ?_
    rotate_left
    ·show Act.put _ (some 18) _ = _
     simp only [pu_]
     rfl
    refine pure_ (i:=6) (N:=some 19) (v:=?_) (a':=?_) (bl 7 26) rfl rfl (any_of HT_.out (by kernel_rfl)) (fun _ _ _ h => h) (Or.inl ⟨by rfl,?_⟩) ?_ ?_
    rotate_left;·intro w';go_simp;with_reducible rfl
    rotate_left;·simp only [pu_];rfl
    refine pure_ (i:=7) (N:=some 20) (v:=?_) (a':=?_) (bl 8 25) rfl rfl (any_of HT_.out (by kernel_rfl)) (fun _ _ _ h => h) (Or.inl ⟨by rfl,?_⟩) ?_ ?_
    rotate_left;·intro w';go_simp;with_reducible rfl
    rotate_left;·simp only [pu_];rfl
    refine pure_ (i:=8) (N:=some 21) (v:=undef) (a':=?_) (bl 9 24) rfl rfl (any_of HT_.out (by kernel_rfl)) (fun _ _ _ h => h) (Or.inr ⟨by rfl,rfl⟩) ?_ ?_
    rotate_left
    ·simp only [pu_]
     rfl
    refine pure_ (i:=9) (N:=some 22) (v:=undef) (a':=?_) (bl 10 23) rfl rfl (any_of HT_.out (by kernel_rfl)) (fun _ _ _ h => h) (Or.inr ⟨by rfl,rfl⟩) ?_ ?_
    rotate_left
    ·simp only [pu_]
     rfl
    refine pure_ (i:=10) (N:=some 23) (v:=undef) (a':=?_) (bl 11 22) rfl rfl (any_of HT_.out (by kernel_rfl)) (fun _ _ _ h => h) (Or.inr ⟨by rfl,rfl⟩) ?_ ?_
    rotate_left
    ·simp only [pu_]
     rfl
    refine pure_ (i:=11) (N:=some 24) (v:=undef) (a':=?_) (bl 12 21) rfl rfl (any_of HT_.out (by kernel_rfl)) (fun _ _ _ h => h) (Or.inr ⟨by rfl,rfl⟩) ?_ ?_
    rotate_left
    ·simp only [pu_]
     rfl
    refine pure_ (i:=12) (N:=some 25) (v:=undef) (a':=?_) (bl 13 20) rfl rfl (any_of HT_.out (by kernel_rfl)) (fun _ _ _ h => h) (Or.inr ⟨by rfl,rfl⟩) ?_ ?_
    rotate_left
    ·simp only [pu_]
     rfl
    refine pure_ (i:=13) (N:=some 26) (v:=undef) (a':=?_) (bl 14 19) rfl rfl (any_of HT_.out (by kernel_rfl)) (fun _ _ _ h => h) (Or.inr ⟨by rfl,rfl⟩) ?_ ?_
    rotate_left
    ·simp only [pu_]
     rfl
    refine pure_ (i:=14) (N:=some 27) (v:=?_) (a':=?_) (bl 15 18) rfl rfl (any_of HT_.out (by kernel_rfl)) (fun _ _ _ h => h) (Or.inl ⟨by rfl,?_⟩) ?_ ?_
    rotate_left;·intro w';go_simp;with_reducible rfl
    rotate_left;·simp only [pu_];rfl
    refine pure_ (i:=15) (N:=some 28) (v:=?_) (a':=?_) (bl 16 17) rfl rfl (any_of HT_.out (by kernel_rfl)) (fun _ _ _ h => h) (Or.inl ⟨by rfl,?_⟩) ?_ ?_
    rotate_left;·intro w';go_simp;with_reducible rfl
    rotate_left;·simp only [pu_];rfl
    refine pure_ (i:=16) (N:=some 29) (v:=undef) (a':=?_) (bl 17 16) rfl rfl (any_of HT_.out (by kernel_rfl)) (fun _ _ _ h => h) (Or.inr ⟨by rfl,rfl⟩) ?_ ?_
    rotate_left
    ·simp only [pu_]
     rfl
    refine pure_ (i:=17) (N:=some 30) (v:=undef) (a':=?_) (bl 18 15) rfl rfl (any_of HT_.out (by kernel_rfl)) (fun _ _ _ h => h) (Or.inr ⟨by rfl,rfl⟩) ?_ ?_
    rotate_left
    ·simp only [pu_]
     rfl
    refine pure_ (i:=18) (N:=some 31) (v:=undef) (a':=?_) (bl 19 14) rfl rfl (any_of HT_.out (by kernel_rfl)) (fun _ _ _ h => h) (Or.inr ⟨by rfl,rfl⟩) ?_ ?_
    rotate_left
    ·simp only [pu_]
     rfl
    refine pure_ (i:=19) (N:=some 32) (v:=undef) (a':=?_) (bl 20 13) rfl rfl (any_of HT_.out (by kernel_rfl)) (fun _ _ _ h => h) (Or.inr ⟨by rfl,rfl⟩) ?_ ?_
    rotate_left
    ·simp only [pu_]
     rfl
    refine pure_ (i:=20) (N:=some 33) (v:=undef) (a':=?_) (bl 21 12) rfl rfl (any_of HT_.out (by kernel_rfl)) (fun _ _ _ h => h) (Or.inr ⟨by rfl,rfl⟩) ?_ ?_
    rotate_left
    ·simp only [pu_]
     rfl
    refine pure_ (i:=21) (N:=some 34) (v:=undef) (a':=?_) (bl 22 11) rfl rfl (any_of HT_.out (by kernel_rfl)) (fun _ _ _ h => h) (Or.inr ⟨by rfl,rfl⟩) ?_ ?_
    rotate_left
    ·simp only [pu_]
     rfl
    refine pure_ (i:=22) (N:=some 35) (v:=undef) (a':=?_) (bl 23 10) rfl rfl (any_of HT_.out (by kernel_rfl)) (fun _ _ _ h => h) (Or.inr ⟨by rfl,rfl⟩) ?_ ?_
    rotate_left
    ·simp only [pu_]
     rfl
    refine pure_ (i:=23) (N:=some 36) (v:=undef) (a':=?_) (bl 24 9) rfl rfl (any_of HT_.out (by kernel_rfl)) (fun _ _ _ h => h) (Or.inr ⟨by rfl,rfl⟩) ?_ ?_
    rotate_left
    ·simp only [pu_]
     rfl
    refine pure_ (i:=24) (N:=some 37) (v:=undef) (a':=?_) (bl 25 8) rfl rfl (any_of HT_.out (by kernel_rfl)) (fun _ _ _ h => h) (Or.inr ⟨by rfl,rfl⟩) ?_ ?_
    rotate_left
    ·simp only [pu_]
     rfl
    refine pure_ (i:=25) (N:=some 38) (v:=undef) (a':=?_) (bl 26 7) rfl rfl (any_of HT_.out (by kernel_rfl)) (fun _ _ _ h => h) (Or.inr ⟨by rfl,rfl⟩) ?_ ?_
    rotate_left
    ·simp only [pu_]
     rfl
    refine pure_ (i:=26) (N:=some 39) (v:=undef) (a':=?_) (bl 27 6) rfl rfl (any_of HT_.out (by kernel_rfl)) (fun _ _ _ h => h) (Or.inr ⟨by rfl,rfl⟩) ?_ ?_
    rotate_left
    ·simp only [pu_]
     rfl
    refine pure_ (i:=27) (N:=some 40) (v:=undef) (a':=?_) (bl 28 5) rfl rfl (any_of HT_.out (by kernel_rfl)) (fun _ _ _ h => h) (Or.inr ⟨by rfl,rfl⟩) ?_ ?_
    rotate_left
    ·simp only [pu_]
     rfl
    refine pure_ (i:=28) (N:=some 41) (v:=undef) (a':=?_) (bl 29 4) rfl rfl (any_of HT_.out (by kernel_rfl)) (fun _ _ _ h => h) (Or.inr ⟨by rfl,rfl⟩) ?_ ?_
    rotate_left
    ·simp only [pu_]
     rfl
    refine pure_ (i:=29) (N:=some 42) (v:=undef) (a':=?_) (bl 30 3) rfl rfl (any_of HT_.out (by kernel_rfl)) (fun _ _ _ h => h) (Or.inr ⟨by rfl,rfl⟩) ?_ ?_
    rotate_left
    ·simp only [pu_]
     rfl
    refine pure_ (i:=30) (N:=some 43) (v:=undef) (a':=?_) (bl 31 2) rfl rfl (any_of HT_.out (by kernel_rfl)) (fun _ _ _ h => h) (Or.inr ⟨by rfl,rfl⟩) ?_ ?_
    rotate_left
    ·simp only [pu_]
     rfl
    refine pure_ (i:=31) (N:=some 44) (v:=undef) (a':=?_) (bl 32 1) rfl rfl (any_of HT_.out (by kernel_rfl)) (fun _ _ _ h => h) (Or.inr ⟨by rfl,rfl⟩) ?_ ?_
    rotate_left
    ·simp only [pu_]
     rfl
    refine pure_ (i:=32) (N:=some 45) (v:=?_) (a':=?_) (bl 33 0) rfl rfl (any_of HT_.out (by kernel_rfl)) (fun _ _ _ h => h) (Or.inl ⟨by rfl,?_⟩) ?_ ?_
    rotate_left;·intro w';go_simp;with_reducible rfl
    rotate_left;·simp only [pu_];rfl
    refine done_ (done_of HT_.out (by kernel_rfl)) ?_
    try go_wp2
    go_ret
    exact ⟨by first|rfl|(simp [errW_none,errW_some] <;> rfl)|(simp [*,errW_none,errW_some] <;> rfl),by repeat (first|(with_reducible first|exact HB.out|apply below_alloc|apply pw_below_drewN|apply below_drew1)|exact HB.out)⟩
   subst c6
   have H1 : (if ((rd_T57 l0 x3_1).f1) < 0 then (some 31) else (if x3_1 > 0 then (if 0 ≤ (wrap64 (x3_1 - 1)) then (if (wrap64 (x3_1 - 1)) < (l0.length : Int) then (if ((Op.bytesLess (((rd_T57 l0 (wrap64 (x3_1 - 1))).f0).toList) (((rd_T57 l0 x3_1).f0).toList)) = true) then (bursarref03_Valid.l0 k1 l0 (wrap64 (x3_1 + 1))) else (some 31)) else (none)) else (none)) else (bursarref03_Valid.l0 k1 l0 (wrap64 (x3_1 + 1))))) = some r:=by rw [if_pos rfl] at H;exact H
   clear H;have H:=H1;clear H1
   by_cases c7 : ((rd_T57 l0 x3_1).f1) < 0
   ·rw [if_pos c7] at H
    have c7b0 : decide (((rd_T57 l0 x3_1).f1) < 0) = true:=decide_eq_true c7
    clear c7
    obtain rfl:=Option.some.inj H
    try go_wp2
    have n0_:=Aside0.mk (below_drew1 HB.out)
    clear HB;have HB:=n0_;clear n0_
    have p714 : 0 ≤ (x3_1 : Int):=of_decide_eq_true (by first|(with_reducible assumption)|assumption)
    have q714 : x3_1 < (l0.length : Int):=of_decide_eq_true (by first|(with_reducible assumption)|assumption)
    obtain ⟨ad714,e714,hx714_0,hx714_1⟩:=at_T57 HR0.out x3_1 p714 q714
    have hw714_1:=hx714_1;have hw714_0:=hx714_0
    cases e714
    replace hx714_0:=(HB.out.cell (World.block_lt_of_cell? w _ hx714_0)).trans hx714_0
    replace hx714_1:=(HB.out.cell (World.block_lt_of_cell? w _ hx714_1)).trans hx714_1
    replace p714:=eq_true p714
    replace q714:=eq_true q714
    have p716 : 0 ≤ (x3_1 : Int):=of_decide_eq_true (by first|(with_reducible assumption)|assumption)
    have q716 : x3_1 < (l0.length : Int):=of_decide_eq_true (by first|(with_reducible assumption)|assumption)
    obtain ⟨ad716,e716,hx716_0,hx716_1⟩:=at_T57 HR0.out x3_1 p716 q716
    have hw716_1:=hx716_1;have hw716_0:=hx716_0
    obtain rfl : ad714 = ad716:=(by injection e716)
    replace hx716_0:=(HB.out.cell (World.block_lt_of_cell? w _ hx716_0)).trans hx716_0
    replace hx716_1:=(HB.out.cell (World.block_lt_of_cell? w _ hx716_1)).trans hx716_1
    replace p716:=eq_true p716
    replace q716:=eq_true q716
    refine start_ (n:=33) (S:=fun w' => w'.cell? (ad714.add ((x3_1).toNat * 2)) = some (.string ((rd_T57 l0 x3_1).f0)) ∧ w'.cell? ⟨(ad714.add ((x3_1).toNat * 2)).block,(ad714.add ((x3_1).toNat * 2)).off + 1,none⟩ = some (.int .i64 ((rd_T57 l0 x3_1).f1)) ∧ w'.cell? (ad714.add ((x3_1).toNat * 2)) = some (.string ((rd_T57 l0 x3_1).f0)) ∧ w'.cell? ⟨(ad714.add ((x3_1).toNat * 2)).block,(ad714.add ((x3_1).toNat * 2)).off + 1,none⟩ = some (.int .i64 ((rd_T57 l0 x3_1).f1))) (ds:=[]) (bl 0 33) (by kernel_rfl) rfl rfl ⟨((HB.out.cell (World.block_lt_of_cell? w _ hw714_0)).trans hw714_0),((HB.out.cell (World.block_lt_of_cell? w _ hw714_1)).trans hw714_1),((HB.out.cell (World.block_lt_of_cell? w _ hw716_0)).trans hw716_0),((HB.out.cell (World.block_lt_of_cell? w _ hw716_1)).trans hw716_1)⟩ (fun hHeld => ?_);refine with_tabW bursarref03_Valid.tab6 bursarref03_Valid.bits6 (fun HT_ HW_ => ?_)
    generalize wr.drew = w8 at HB hx714_0 hx714_1 hx716_0 hx716_1 hHeld ⊢
    refine pure_ (i:=0) (N:=some 13) (v:=?_) (a':=?_) (bl 1 32) rfl rfl (any_of HT_.out (by kernel_rfl)) (fun _ _ _ h => h) (Or.inl ⟨by rfl,?_⟩) ?_ ?_
    rotate_left;·intro w';go_simp;with_reducible rfl
    rotate_left;·simp only [pu_];rfl
    refine pure_ (i:=1) (N:=some 14) (v:=?_) (a':=?_) (bl 2 31) rfl rfl (any_of HT_.out (by kernel_rfl)) (fun _ _ _ h => h) (Or.inl ⟨by rfl,?_⟩) ?_ ?_
    rotate_left;·intro w';go_simp;with_reducible rfl
    rotate_left;·simp only [pu_];rfl
    refine pure_ (i:=2) (N:=some 15) (v:=?_) (a':=?_) (bl 3 30) rfl rfl (any_of HT_.out (by kernel_rfl)) (fun _ _ _ h => h) (Or.inl ⟨by rfl,?_⟩) ?_ ?_
    rotate_left;·intro w';go_simp;with_reducible rfl
    rotate_left;·simp only [pu_];rfl
    refine pure_ (i:=3) (N:=some 16) (v:=?_) (a':=?_) (bl 4 29) rfl rfl (any_of HT_.out (by kernel_rfl)) (fun _ _ _ h => h) (Or.inl ⟨by rfl,?_⟩) ?_ ?_
    rotate_left;·intro w';go_simp;with_reducible rfl
    rotate_left;·simp only [pu_];rfl
    refine take_ (i:=4) (N:=some 17) (v:=?_) (a':=?_) (bl 5 28) rfl rfl (take_ofW HT_.out HW_.out (by kernel_rfl)) (fun _ _ _ h => h) (Or.inl ⟨by rfl,?_⟩) hHeld ?_ ?_
    rotate_left
    ·rintro w' ⟨s0,s1,s2,s3⟩
     go_simp
     with_reducible rfl
    rotate_left
    ·simp only [pu_]
     rfl
    refine one_ (i:=5) (N:=some 18) (bl 6 27) rfl rfl (one_of HT_.out (by kernel_rfl)) (by decide) (fun K hK => ?_)
    refine goes_ Tryz.func75 (by kernel_rfl) rfl #[.string ((rd_T57 l0 x3_1).f0)] (by rfl) rfl rfl (by (try simp only [List.map_toArray,List.map_cons,List.map_nil]);first|done|rfl|(simp only [List.length_drop,List.length_take];rfl)) ?_
    with_reducible refine (bursarref03_Resource.calls k1 ((rd_T57 l0 x3_1).f0) true _ A5.out).mono ?_
    rintro e w' ⟨rfl,⟨nd,rfl⟩⟩
    refine ⟨_,rfl,?_⟩
    refine hK.out _ _ ⟨((HB.out.cell (World.block_lt_of_cell? w _ hw714_0)).trans hw714_0),((HB.out.cell (World.block_lt_of_cell? w _ hw714_1)).trans hw714_1),((HB.out.cell (World.block_lt_of_cell? w _ hw716_0)).trans hw716_0),((HB.out.cell (World.block_lt_of_cell? w _ hw716_1)).trans hw716_1)⟩ (fun hHeld => ?_)
    clear hK K
    refine norm_ (a':=?_) ?_ ?_
    rotate_left
    ·show Act.put _ (some 18) _ = _
     simp only [pu_]
     rfl
    refine pure_ (i:=6) (N:=some 19) (v:=?_) (a':=?_) (bl 7 26) rfl rfl (any_of HT_.out (by kernel_rfl)) (fun _ _ _ h => h) (Or.inl ⟨by rfl,?_⟩) ?_ ?_
    rotate_left;·intro w';go_simp;with_reducible rfl
    rotate_left;·simp only [pu_];rfl
    refine pure_ (i:=7) (N:=some 20) (v:=?_) (a':=?_) (bl 8 25) rfl rfl (any_of HT_.out (by kernel_rfl)) (fun _ _ _ h => h) (Or.inl ⟨by rfl,?_⟩) ?_ ?_
    rotate_left;·intro w';go_simp;with_reducible rfl
    rotate_left;·simp only [pu_];rfl
    refine pure_ (i:=8) (N:=some 21) (v:=?_) (a':=?_) (bl 9 24) rfl rfl (any_of HT_.out (by kernel_rfl)) (fun _ _ _ h => h) (Or.inl ⟨by rfl,?_⟩) ?_ ?_
    rotate_left;·intro w';go_simp;with_reducible rfl
    rotate_left;·simp only [pu_];rfl
    refine pure_ (i:=9) (N:=some 22) (v:=?_) (a':=?_) (bl 10 23) rfl rfl (any_of HT_.out (by kernel_rfl)) (fun _ _ _ h => h) (Or.inl ⟨by rfl,?_⟩) ?_ ?_
    rotate_left;·intro w';go_simp;with_reducible rfl
    rotate_left;·simp only [pu_];rfl
    refine pure_ (i:=10) (N:=some 23) (v:=?_) (a':=?_) (bl 11 22) rfl rfl (any_of HT_.out (by kernel_rfl)) (fun _ _ _ h => h) (Or.inl ⟨by rfl,?_⟩) ?_ ?_
    rotate_left;·intro w';go_simp;with_reducible rfl
    rotate_left;·simp only [pu_];rfl
    refine pure_ (i:=11) (N:=some 24) (v:=?_) (a':=?_) (bl 12 21) rfl rfl (any_of HT_.out (by kernel_rfl)) (fun _ _ _ h => h) (Or.inl ⟨by rfl,?_⟩) ?_ ?_
    rotate_left;·intro w';go_simp;with_reducible rfl
    rotate_left;·simp only [pu_];rfl
    refine take_ (i:=12) (N:=some 25) (v:=?_) (a':=?_) (bl 13 20) rfl rfl (take_ofW HT_.out HW_.out (by kernel_rfl)) (fun _ _ _ h => h) (Or.inl ⟨by rfl,?_⟩) hHeld ?_ ?_
    rotate_left
    ·rintro w' ⟨s0,s1,s2,s3⟩
     go_simp
     with_reducible rfl
    rotate_left
    ·simp only [pu_]
     rfl
    refine pure_ (i:=13) (N:=some 26) (v:=?_) (a':=?_) (bl 14 19) rfl rfl (any_of HT_.out (by kernel_rfl)) (fun _ _ _ h => h) (Or.inl ⟨by rfl,?_⟩) ?_ ?_
    rotate_left;·intro w';go_simp;with_reducible rfl
    rotate_left;·simp only [pu_];rfl
    refine pure_ (i:=14) (N:=some 27) (v:=?_) (a':=?_) (bl 15 18) rfl rfl (any_of HT_.out (by kernel_rfl)) (fun _ _ _ h => h) (Or.inl ⟨by rfl,?_⟩) ?_ ?_
    rotate_left;·intro w';go_simp;with_reducible rfl
    rotate_left;·simp only [pu_];rfl
    refine pure_ (i:=15) (N:=some 28) (v:=?_) (a':=?_) (bl 16 17) rfl rfl (any_of HT_.out (by kernel_rfl)) (fun _ _ _ h => h) (Or.inl ⟨by rfl,?_⟩) ?_ ?_
    rotate_left;·intro w';go_simp;with_reducible rfl
    rotate_left;·simp only [pu_];rfl
    refine pure_ (i:=16) (N:=some 29) (v:=undef) (a':=?_) (bl 17 16) rfl rfl (any_of HT_.out (by kernel_rfl)) (fun _ _ _ h => h) (Or.inr ⟨by rfl,rfl⟩) ?_ ?_
    rotate_left
    ·simp only [pu_]
     rfl
    refine pure_ (i:=17) (N:=some 30) (v:=undef) (a':=?_) (bl 18 15) rfl rfl (any_of HT_.out (by kernel_rfl)) (fun _ _ _ h => h) (Or.inr ⟨by rfl,rfl⟩) ?_ ?_
    rotate_left
    ·simp only [pu_]
     rfl
    refine pure_ (i:=18) (N:=some 31) (v:=undef) (a':=?_) (bl 19 14) rfl rfl (any_of HT_.out (by kernel_rfl)) (fun _ _ _ h => h) (Or.inr ⟨by rfl,rfl⟩) ?_ ?_
    rotate_left
    ·simp only [pu_]
     rfl
    refine pure_ (i:=19) (N:=some 32) (v:=undef) (a':=?_) (bl 20 13) rfl rfl (any_of HT_.out (by kernel_rfl)) (fun _ _ _ h => h) (Or.inr ⟨by rfl,rfl⟩) ?_ ?_
    rotate_left
    ·simp only [pu_]
     rfl
    refine pure_ (i:=20) (N:=some 33) (v:=undef) (a':=?_) (bl 21 12) rfl rfl (any_of HT_.out (by kernel_rfl)) (fun _ _ _ h => h) (Or.inr ⟨by rfl,rfl⟩) ?_ ?_
    rotate_left
    ·simp only [pu_]
     rfl
    refine pure_ (i:=21) (N:=some 34) (v:=undef) (a':=?_) (bl 22 11) rfl rfl (any_of HT_.out (by kernel_rfl)) (fun _ _ _ h => h) (Or.inr ⟨by rfl,rfl⟩) ?_ ?_
    rotate_left
    ·simp only [pu_]
     rfl
    refine pure_ (i:=22) (N:=some 35) (v:=undef) (a':=?_) (bl 23 10) rfl rfl (any_of HT_.out (by kernel_rfl)) (fun _ _ _ h => h) (Or.inr ⟨by rfl,rfl⟩) ?_ ?_
    rotate_left
    ·simp only [pu_]
     rfl
    refine pure_ (i:=23) (N:=some 36) (v:=undef) (a':=?_) (bl 24 9) rfl rfl (any_of HT_.out (by kernel_rfl)) (fun _ _ _ h => h) (Or.inr ⟨by rfl,rfl⟩) ?_ ?_
    rotate_left
    ·simp only [pu_]
     rfl
    refine pure_ (i:=24) (N:=some 37) (v:=undef) (a':=?_) (bl 25 8) rfl rfl (any_of HT_.out (by kernel_rfl)) (fun _ _ _ h => h) (Or.inr ⟨by rfl,rfl⟩) ?_ ?_
    rotate_left
    ·simp only [pu_]
     rfl
    refine pure_ (i:=25) (N:=some 38) (v:=undef) (a':=?_) (bl 26 7) rfl rfl (any_of HT_.out (by kernel_rfl)) (fun _ _ _ h => h) (Or.inr ⟨by rfl,rfl⟩) ?_ ?_
    rotate_left
    ·simp only [pu_]
     rfl
    refine pure_ (i:=26) (N:=some 39) (v:=undef) (a':=?_) (bl 27 6) rfl rfl (any_of HT_.out (by kernel_rfl)) (fun _ _ _ h => h) (Or.inr ⟨by rfl,rfl⟩) ?_ ?_
    rotate_left
    ·simp only [pu_]
     rfl
    refine pure_ (i:=27) (N:=some 40) (v:=undef) (a':=?_) (bl 28 5) rfl rfl (any_of HT_.out (by kernel_rfl)) (fun _ _ _ h => h) (Or.inr ⟨by rfl,rfl⟩) ?_ ?_
    rotate_left
    ·simp only [pu_]
     rfl
    refine pure_ (i:=28) (N:=some 41) (v:=undef) (a':=?_) (bl 29 4) rfl rfl (any_of HT_.out (by kernel_rfl)) (fun _ _ _ h => h) (Or.inr ⟨by rfl,rfl⟩) ?_ ?_
    rotate_left
    ·simp only [pu_]
     rfl
    refine pure_ (i:=29) (N:=some 42) (v:=undef) (a':=?_) (bl 30 3) rfl rfl (any_of HT_.out (by kernel_rfl)) (fun _ _ _ h => h) (Or.inr ⟨by rfl,rfl⟩) ?_ ?_
    rotate_left
    ·simp only [pu_]
     rfl
    refine pure_ (i:=30) (N:=some 43) (v:=undef) (a':=?_) (bl 31 2) rfl rfl (any_of HT_.out (by kernel_rfl)) (fun _ _ _ h => h) (Or.inr ⟨by rfl,rfl⟩) ?_ ?_
    rotate_left
    ·simp only [pu_]
     rfl
    refine pure_ (i:=31) (N:=some 44) (v:=undef) (a':=?_) (bl 32 1) rfl rfl (any_of HT_.out (by kernel_rfl)) (fun _ _ _ h => h) (Or.inr ⟨by rfl,rfl⟩) ?_ ?_
    rotate_left
    ·simp only [pu_]
     rfl
    refine pure_ (i:=32) (N:=some 45) (v:=?_) (a':=?_) (bl 33 0) rfl rfl (any_of HT_.out (by kernel_rfl)) (fun _ _ _ h => h) (Or.inl ⟨by rfl,?_⟩) ?_ ?_
    rotate_left;·intro w';go_simp;with_reducible rfl
    rotate_left;·simp only [pu_];rfl
    refine done_ (done_of HT_.out (by kernel_rfl)) ?_
    try go_wp2
    go_ret
    exact ⟨by first|rfl|(simp [errW_none,errW_some] <;> rfl)|(simp [*,errW_none,errW_some] <;> rfl),by repeat (first|(with_reducible first|exact HB.out|apply below_alloc|apply pw_below_drewN|apply below_drew1)|exact HB.out)⟩
   rw [if_neg c7] at H
   have c7b0 : decide (((rd_T57 l0 x3_1).f1) < 0) = false:=decide_eq_false c7
   clear c7
   by_cases c9 : x3_1 > 0
   rotate_left
   ·rw [if_neg c9] at H
    have c9b0 : decide (0 < x3_1) = false:=decide_eq_false c9
    clear c9
    have H':=Aside0.mk H
    clear H
    try go_wp2
    have n0_:=Aside0.mk (below_drew1 HB.out)
    clear HB;have HB:=n0_;clear n0_
    have p714 : 0 ≤ (x3_1 : Int):=of_decide_eq_true (by first|(with_reducible assumption)|assumption)
    have q714 : x3_1 < (l0.length : Int):=of_decide_eq_true (by first|(with_reducible assumption)|assumption)
    obtain ⟨ad714,e714,hx714_0,hx714_1⟩:=at_T57 HR0.out x3_1 p714 q714
    have hw714_1:=hx714_1;have hw714_0:=hx714_0
    cases e714
    replace hx714_0:=(HB.out.cell (World.block_lt_of_cell? w _ hx714_0)).trans hx714_0
    replace hx714_1:=(HB.out.cell (World.block_lt_of_cell? w _ hx714_1)).trans hx714_1
    replace p714:=eq_true p714
    replace q714:=eq_true q714
    have p716 : 0 ≤ (x3_1 : Int):=of_decide_eq_true (by first|(with_reducible assumption)|assumption)
    have q716 : x3_1 < (l0.length : Int):=of_decide_eq_true (by first|(with_reducible assumption)|assumption)
    obtain ⟨ad716,e716,hx716_0,hx716_1⟩:=at_T57 HR0.out x3_1 p716 q716
    have hw716_1:=hx716_1;have hw716_0:=hx716_0
    obtain rfl : ad714 = ad716:=(by injection e716)
    replace hx716_0:=(HB.out.cell (World.block_lt_of_cell? w _ hx716_0)).trans hx716_0
    replace hx716_1:=(HB.out.cell (World.block_lt_of_cell? w _ hx716_1)).trans hx716_1
    replace p716:=eq_true p716
    replace q716:=eq_true q716
    refine start_ (n:=33) (S:=fun w' => w'.cell? (ad714.add ((x3_1).toNat * 2)) = some (.string ((rd_T57 l0 x3_1).f0)) ∧ w'.cell? ⟨(ad714.add ((x3_1).toNat * 2)).block,(ad714.add ((x3_1).toNat * 2)).off + 1,none⟩ = some (.int .i64 ((rd_T57 l0 x3_1).f1)) ∧ w'.cell? (ad714.add ((x3_1).toNat * 2)) = some (.string ((rd_T57 l0 x3_1).f0)) ∧ w'.cell? ⟨(ad714.add ((x3_1).toNat * 2)).block,(ad714.add ((x3_1).toNat * 2)).off + 1,none⟩ = some (.int .i64 ((rd_T57 l0 x3_1).f1))) (ds:=[]) (bl 0 33) (by kernel_rfl) rfl rfl ⟨((HB.out.cell (World.block_lt_of_cell? w _ hw714_0)).trans hw714_0),((HB.out.cell (World.block_lt_of_cell? w _ hw714_1)).trans hw714_1),((HB.out.cell (World.block_lt_of_cell? w _ hw716_0)).trans hw716_0),((HB.out.cell (World.block_lt_of_cell? w _ hw716_1)).trans hw716_1)⟩ (fun hHeld => ?_);refine with_tabW bursarref03_Valid.tab6 bursarref03_Valid.bits6 (fun HT_ HW_ => ?_)
    generalize wr.drew = w16 at HB hx714_0 hx714_1 hx716_0 hx716_1 hHeld ⊢
    refine pure_ (i:=0) (N:=some 13) (v:=?_) (a':=?_) (bl 1 32) rfl rfl (any_of HT_.out (by kernel_rfl)) (fun _ _ _ h => h) (Or.inl ⟨by rfl,?_⟩) ?_ ?_
    rotate_left;·intro w';go_simp;with_reducible rfl
    rotate_left;·simp only [pu_];rfl
    refine pure_ (i:=1) (N:=some 14) (v:=?_) (a':=?_) (bl 2 31) rfl rfl (any_of HT_.out (by kernel_rfl)) (fun _ _ _ h => h) (Or.inl ⟨by rfl,?_⟩) ?_ ?_
    rotate_left;·intro w';go_simp;with_reducible rfl
    rotate_left;·simp only [pu_];rfl
    refine pure_ (i:=2) (N:=some 15) (v:=?_) (a':=?_) (bl 3 30) rfl rfl (any_of HT_.out (by kernel_rfl)) (fun _ _ _ h => h) (Or.inl ⟨by rfl,?_⟩) ?_ ?_
    rotate_left;·intro w';go_simp;with_reducible rfl
    rotate_left;·simp only [pu_];rfl
    refine pure_ (i:=3) (N:=some 16) (v:=?_) (a':=?_) (bl 4 29) rfl rfl (any_of HT_.out (by kernel_rfl)) (fun _ _ _ h => h) (Or.inl ⟨by rfl,?_⟩) ?_ ?_
    rotate_left;·intro w';go_simp;with_reducible rfl
    rotate_left;·simp only [pu_];rfl
    refine take_ (i:=4) (N:=some 17) (v:=?_) (a':=?_) (bl 5 28) rfl rfl (take_ofW HT_.out HW_.out (by kernel_rfl)) (fun _ _ _ h => h) (Or.inl ⟨by rfl,?_⟩) hHeld ?_ ?_
    rotate_left
    ·rintro w' ⟨s0,s1,s2,s3⟩
     go_simp
     with_reducible rfl
    rotate_left
    ·simp only [pu_]
     rfl
    refine one_ (i:=5) (N:=some 18) (bl 6 27) rfl rfl (one_of HT_.out (by kernel_rfl)) (by decide) (fun K hK => ?_)
    refine goes_ Tryz.func75 (by kernel_rfl) rfl #[.string ((rd_T57 l0 x3_1).f0)] (by rfl) rfl rfl (by (try simp only [List.map_toArray,List.map_cons,List.map_nil]);first|done|rfl|(simp only [List.length_drop,List.length_take];rfl)) ?_
    with_reducible refine (bursarref03_Resource.calls k1 ((rd_T57 l0 x3_1).f0) true _ A5.out).mono ?_
    rintro e w' ⟨rfl,⟨nd,rfl⟩⟩
    refine ⟨_,rfl,?_⟩
    refine hK.out _ _ ⟨((HB.out.cell (World.block_lt_of_cell? w _ hw714_0)).trans hw714_0),((HB.out.cell (World.block_lt_of_cell? w _ hw714_1)).trans hw714_1),((HB.out.cell (World.block_lt_of_cell? w _ hw716_0)).trans hw716_0),((HB.out.cell (World.block_lt_of_cell? w _ hw716_1)).trans hw716_1)⟩ (fun hHeld => ?_)
    clear hK K
    refine norm_ (a':=?_) ?_ ?_
    rotate_left
    ·show Act.put _ (some 18) _ = _
     simp only [pu_]
     rfl
    refine pure_ (i:=6) (N:=some 19) (v:=?_) (a':=?_) (bl 7 26) rfl rfl (any_of HT_.out (by kernel_rfl)) (fun _ _ _ h => h) (Or.inl ⟨by rfl,?_⟩) ?_ ?_
    rotate_left;·intro w';go_simp;with_reducible rfl
    rotate_left;·simp only [pu_];rfl
    refine pure_ (i:=7) (N:=some 20) (v:=?_) (a':=?_) (bl 8 25) rfl rfl (any_of HT_.out (by kernel_rfl)) (fun _ _ _ h => h) (Or.inl ⟨by rfl,?_⟩) ?_ ?_
    rotate_left;·intro w';go_simp;with_reducible rfl
    rotate_left;·simp only [pu_];rfl
    refine pure_ (i:=8) (N:=some 21) (v:=?_) (a':=?_) (bl 9 24) rfl rfl (any_of HT_.out (by kernel_rfl)) (fun _ _ _ h => h) (Or.inl ⟨by rfl,?_⟩) ?_ ?_
    rotate_left;·intro w';go_simp;with_reducible rfl
    rotate_left;·simp only [pu_];rfl
    refine pure_ (i:=9) (N:=some 22) (v:=?_) (a':=?_) (bl 10 23) rfl rfl (any_of HT_.out (by kernel_rfl)) (fun _ _ _ h => h) (Or.inl ⟨by rfl,?_⟩) ?_ ?_
    rotate_left;·intro w';go_simp;with_reducible rfl
    rotate_left;·simp only [pu_];rfl
    refine pure_ (i:=10) (N:=some 23) (v:=?_) (a':=?_) (bl 11 22) rfl rfl (any_of HT_.out (by kernel_rfl)) (fun _ _ _ h => h) (Or.inl ⟨by rfl,?_⟩) ?_ ?_
    rotate_left;·intro w';go_simp;with_reducible rfl
    rotate_left;·simp only [pu_];rfl
    refine pure_ (i:=11) (N:=some 24) (v:=?_) (a':=?_) (bl 12 21) rfl rfl (any_of HT_.out (by kernel_rfl)) (fun _ _ _ h => h) (Or.inl ⟨by rfl,?_⟩) ?_ ?_
    rotate_left;·intro w';go_simp;with_reducible rfl
    rotate_left;·simp only [pu_];rfl
    refine take_ (i:=12) (N:=some 25) (v:=?_) (a':=?_) (bl 13 20) rfl rfl (take_ofW HT_.out HW_.out (by kernel_rfl)) (fun _ _ _ h => h) (Or.inl ⟨by rfl,?_⟩) hHeld ?_ ?_
    rotate_left
    ·rintro w' ⟨s0,s1,s2,s3⟩
     go_simp
     with_reducible rfl
    rotate_left
    ·simp only [pu_]
     rfl
    refine pure_ (i:=13) (N:=some 26) (v:=?_) (a':=?_) (bl 14 19) rfl rfl (any_of HT_.out (by kernel_rfl)) (fun _ _ _ h => h) (Or.inl ⟨by rfl,?_⟩) ?_ ?_
    rotate_left;·intro w';go_simp;with_reducible rfl
    rotate_left;·simp only [pu_];rfl
    refine pure_ (i:=14) (N:=some 27) (v:=?_) (a':=?_) (bl 15 18) rfl rfl (any_of HT_.out (by kernel_rfl)) (fun _ _ _ h => h) (Or.inl ⟨by rfl,?_⟩) ?_ ?_
    rotate_left;·intro w';go_simp;with_reducible rfl
    rotate_left;·simp only [pu_];rfl
    refine pure_ (i:=15) (N:=some 28) (v:=?_) (a':=?_) (bl 16 17) rfl rfl (any_of HT_.out (by kernel_rfl)) (fun _ _ _ h => h) (Or.inl ⟨by rfl,?_⟩) ?_ ?_
    rotate_left;·intro w';go_simp;with_reducible rfl
    rotate_left;·simp only [pu_];rfl
    refine pure_ (i:=16) (N:=some 29) (v:=?_) (a':=?_) (bl 17 16) rfl rfl (any_of HT_.out (by kernel_rfl)) (fun _ _ _ h => h) (Or.inl ⟨by rfl,?_⟩) ?_ ?_
    rotate_left;·intro w';go_simp;with_reducible rfl
    rotate_left;·simp only [pu_];rfl
    refine pure_ (i:=17) (N:=some 30) (v:=?_) (a':=?_) (bl 18 15) rfl rfl (any_of HT_.out (by kernel_rfl)) (fun _ _ _ h => h) (Or.inl ⟨by rfl,?_⟩) ?_ ?_
    rotate_left;·intro w';go_simp;with_reducible rfl
    rotate_left;·simp only [pu_];rfl
    refine pure_ (i:=18) (N:=some 31) (v:=?_) (a':=?_) (bl 19 14) rfl rfl (any_of HT_.out (by kernel_rfl)) (fun _ _ _ h => h) (Or.inl ⟨by rfl,?_⟩) ?_ ?_
    rotate_left;·intro w';go_simp;with_reducible rfl
    rotate_left;·simp only [pu_];rfl
    refine pure_ (i:=19) (N:=some 32) (v:=undef) (a':=?_) (bl 20 13) rfl rfl (any_of HT_.out (by kernel_rfl)) (fun _ _ _ h => h) (Or.inr ⟨by rfl,rfl⟩) ?_ ?_
    rotate_left
    ·simp only [pu_]
     rfl
    refine pure_ (i:=20) (N:=some 33) (v:=undef) (a':=?_) (bl 21 12) rfl rfl (any_of HT_.out (by kernel_rfl)) (fun _ _ _ h => h) (Or.inr ⟨by rfl,rfl⟩) ?_ ?_
    rotate_left
    ·simp only [pu_]
     rfl
    refine pure_ (i:=21) (N:=some 34) (v:=undef) (a':=?_) (bl 22 11) rfl rfl (any_of HT_.out (by kernel_rfl)) (fun _ _ _ h => h) (Or.inr ⟨by rfl,rfl⟩) ?_ ?_
    rotate_left
    ·simp only [pu_]
     rfl
    refine pure_ (i:=22) (N:=some 35) (v:=undef) (a':=?_) (bl 23 10) rfl rfl (any_of HT_.out (by kernel_rfl)) (fun _ _ _ h => h) (Or.inr ⟨by rfl,rfl⟩) ?_ ?_
    rotate_left
    ·simp only [pu_]
     rfl
    refine pure_ (i:=23) (N:=some 36) (v:=undef) (a':=?_) (bl 24 9) rfl rfl (any_of HT_.out (by kernel_rfl)) (fun _ _ _ h => h) (Or.inr ⟨by rfl,rfl⟩) ?_ ?_
    rotate_left
    ·simp only [pu_]
     rfl
    refine pure_ (i:=24) (N:=some 37) (v:=undef) (a':=?_) (bl 25 8) rfl rfl (any_of HT_.out (by kernel_rfl)) (fun _ _ _ h => h) (Or.inr ⟨by rfl,rfl⟩) ?_ ?_
    rotate_left
    ·simp only [pu_]
     rfl
    refine pure_ (i:=25) (N:=some 38) (v:=undef) (a':=?_) (bl 26 7) rfl rfl (any_of HT_.out (by kernel_rfl)) (fun _ _ _ h => h) (Or.inr ⟨by rfl,rfl⟩) ?_ ?_
    rotate_left
    ·simp only [pu_]
     rfl
    refine pure_ (i:=26) (N:=some 39) (v:=undef) (a':=?_) (bl 27 6) rfl rfl (any_of HT_.out (by kernel_rfl)) (fun _ _ _ h => h) (Or.inr ⟨by rfl,rfl⟩) ?_ ?_
    rotate_left
    ·simp only [pu_]
     rfl
    refine pure_ (i:=27) (N:=some 40) (v:=undef) (a':=?_) (bl 28 5) rfl rfl (any_of HT_.out (by kernel_rfl)) (fun _ _ _ h => h) (Or.inr ⟨by rfl,rfl⟩) ?_ ?_
    rotate_left
    ·simp only [pu_]
     rfl
    refine pure_ (i:=28) (N:=some 41) (v:=undef) (a':=?_) (bl 29 4) rfl rfl (any_of HT_.out (by kernel_rfl)) (fun _ _ _ h => h) (Or.inr ⟨by rfl,rfl⟩) ?_ ?_
    rotate_left
    ·simp only [pu_]
     rfl
    refine pure_ (i:=29) (N:=some 42) (v:=undef) (a':=?_) (bl 30 3) rfl rfl (any_of HT_.out (by kernel_rfl)) (fun _ _ _ h => h) (Or.inr ⟨by rfl,rfl⟩) ?_ ?_
    rotate_left
    ·simp only [pu_]
     rfl
    refine pure_ (i:=30) (N:=some 43) (v:=undef) (a':=?_) (bl 31 2) rfl rfl (any_of HT_.out (by kernel_rfl)) (fun _ _ _ h => h) (Or.inr ⟨by rfl,rfl⟩) ?_ ?_
    rotate_left
    ·simp only [pu_]
     rfl
    refine pure_ (i:=31) (N:=some 44) (v:=?_) (a':=?_) (bl 32 1) rfl rfl (any_of HT_.out (by kernel_rfl)) (fun _ _ _ h => h) (Or.inl ⟨by rfl,?_⟩) ?_ ?_
    rotate_left;·intro w';go_simp;with_reducible rfl
    rotate_left;·simp only [pu_];rfl
    refine pure_ (i:=32) (N:=some 45) (v:=?_) (a':=?_) (bl 33 0) rfl rfl (any_of HT_.out (by kernel_rfl)) (fun _ _ _ h => h) (Or.inl ⟨by rfl,?_⟩) ?_ ?_
    rotate_left;·intro w';go_simp;with_reducible rfl
    rotate_left;·simp only [pu_];rfl
    refine done_ (done_of HT_.out (by kernel_rfl)) ?_
    try go_wp2
    go_roundg k1
    case measure => have:=HK1.out;omega
    case rel => exact ⟨(wrap64 (x3_1 + 1)),(by first|rfl|(simp;done)|(simp [*];done)|(simp;rw [Bool.eq_iff_iff];simp;done)|(rw [Bool.eq_iff_iff];simp;done)),H',⟨by have:=HK1.out;omega⟩,⟨by repeat (first|(with_reducible first|exact HB.out|apply below_alloc|apply pw_below_drewN|apply below_drew1)|exact HB.out)⟩⟩
   rw [if_pos c9] at H
   have c9b0 : decide (0 < x3_1) = true:=decide_eq_true c9
   clear c9
   obtain ⟨ji10,hji10⟩ : ∃ j_ : Int,(wrap64 (x3_1 - 1)) = j_:=⟨_,rfl⟩
   replace H : (if 0 ≤ (ji10) then (if (ji10) < (l0.length : Int) then (if ((Op.bytesLess (((rd_T57 l0 (ji10)).f0).toList) (((rd_T57 l0 x3_1).f0).toList)) = true) then (bursarref03_Valid.l0 k1 l0 (wrap64 (x3_1 + 1))) else (some 31)) else (none)) else (none)) = some r:=by first|(rw [hji10] at H;exact H)|(simp only [hji10] at H ⊢;exact H)
   (try rw [hji10] at A5)
   have hji10w : (IntKind.i64.wrap (x3_1 - 1)) = ji10:=(i64_w _).trans hji10
   by_cases c11 : 0 ≤ (ji10)
   rotate_left
   ·rw [if_neg c11] at H
    exact absurd H (by simp)
   rw [if_pos c11] at H
   have c11b0 : decide (0 ≤ (ji10)) = true:=decide_eq_true c11
   clear c11
   by_cases c12 : (ji10) < (l0.length : Int)
   rotate_left
   ·rw [if_neg c12] at H
    exact absurd H (by simp)
   rw [if_pos c12] at H
   have c12b0 : decide ((ji10) < (l0.length : Int)) = true:=decide_eq_true c12
   clear c12
   by_cases c13 : ((Op.bytesLess (((rd_T57 l0 (ji10)).f0).toList) (((rd_T57 l0 x3_1).f0).toList)) = true)
   rotate_left
   ·rw [if_neg c13] at H
    have c13b0 : (Op.bytesLess (((rd_T57 l0 (ji10)).f0).toList) (((rd_T57 l0 x3_1).f0).toList)) = false:=by simpa using c13
    clear c13
    obtain rfl:=Option.some.inj H
    try go_wp2
    have n0_:=Aside0.mk (below_drew1 HB.out)
    clear HB;have HB:=n0_;clear n0_
    have p714 : 0 ≤ (x3_1 : Int):=of_decide_eq_true (by first|(with_reducible assumption)|assumption)
    have q714 : x3_1 < (l0.length : Int):=of_decide_eq_true (by first|(with_reducible assumption)|assumption)
    obtain ⟨ad714,e714,hx714_0,hx714_1⟩:=at_T57 HR0.out x3_1 p714 q714
    have hw714_1:=hx714_1;have hw714_0:=hx714_0
    cases e714
    replace hx714_0:=(HB.out.cell (World.block_lt_of_cell? w _ hx714_0)).trans hx714_0
    replace hx714_1:=(HB.out.cell (World.block_lt_of_cell? w _ hx714_1)).trans hx714_1
    replace p714:=eq_true p714
    replace q714:=eq_true q714
    have p716 : 0 ≤ (x3_1 : Int):=of_decide_eq_true (by first|(with_reducible assumption)|assumption)
    have q716 : x3_1 < (l0.length : Int):=of_decide_eq_true (by first|(with_reducible assumption)|assumption)
    obtain ⟨ad716,e716,hx716_0,hx716_1⟩:=at_T57 HR0.out x3_1 p716 q716
    have hw716_1:=hx716_1;have hw716_0:=hx716_0
    obtain rfl : ad714 = ad716:=(by injection e716)
    replace hx716_0:=(HB.out.cell (World.block_lt_of_cell? w _ hx716_0)).trans hx716_0
    replace hx716_1:=(HB.out.cell (World.block_lt_of_cell? w _ hx716_1)).trans hx716_1
    replace p716:=eq_true p716
    replace q716:=eq_true q716
    have p717 : 0 ≤ (x3_1 : Int):=of_decide_eq_true (by first|(with_reducible assumption)|assumption)
    have q717 : x3_1 < (l0.length : Int):=of_decide_eq_true (by first|(with_reducible assumption)|assumption)
    obtain ⟨ad717,e717,hx717_0,hx717_1⟩:=at_T57 HR0.out x3_1 p717 q717
    have hw717_1:=hx717_1;have hw717_0:=hx717_0
    obtain rfl : ad714 = ad717:=(by injection e717)
    replace hx717_0:=(HB.out.cell (World.block_lt_of_cell? w _ hx717_0)).trans hx717_0
    replace hx717_1:=(HB.out.cell (World.block_lt_of_cell? w _ hx717_1)).trans hx717_1
    replace p717:=eq_true p717
    replace q717:=eq_true q717
    have p718 : 0 ≤ ((ji10) : Int):=of_decide_eq_true (by first|(with_reducible assumption)|assumption)
    have q718 : (ji10) < (l0.length : Int):=of_decide_eq_true (by first|(with_reducible assumption)|assumption)
    obtain ⟨ad718,e718,hx718_0,hx718_1⟩:=at_T57 HR0.out (ji10) p718 q718
    have hw718_1:=hx718_1;have hw718_0:=hx718_0
    obtain rfl : ad714 = ad718:=(by injection e718)
    replace hx718_0:=(HB.out.cell (World.block_lt_of_cell? w _ hx718_0)).trans hx718_0
    replace hx718_1:=(HB.out.cell (World.block_lt_of_cell? w _ hx718_1)).trans hx718_1
    replace p718:=eq_true p718
    replace q718:=eq_true q718
    refine start_ (n:=33) (S:=fun w' => w'.cell? (ad714.add ((x3_1).toNat * 2)) = some (.string ((rd_T57 l0 x3_1).f0)) ∧ w'.cell? ⟨(ad714.add ((x3_1).toNat * 2)).block,(ad714.add ((x3_1).toNat * 2)).off + 1,none⟩ = some (.int .i64 ((rd_T57 l0 x3_1).f1)) ∧ w'.cell? (ad714.add ((x3_1).toNat * 2)) = some (.string ((rd_T57 l0 x3_1).f0)) ∧ w'.cell? ⟨(ad714.add ((x3_1).toNat * 2)).block,(ad714.add ((x3_1).toNat * 2)).off + 1,none⟩ = some (.int .i64 ((rd_T57 l0 x3_1).f1)) ∧ w'.cell? (ad714.add ((x3_1).toNat * 2)) = some (.string ((rd_T57 l0 x3_1).f0)) ∧ w'.cell? ⟨(ad714.add ((x3_1).toNat * 2)).block,(ad714.add ((x3_1).toNat * 2)).off + 1,none⟩ = some (.int .i64 ((rd_T57 l0 x3_1).f1)) ∧ w'.cell? (ad714.add (((ji10)).toNat * 2)) = some (.string ((rd_T57 l0 (ji10)).f0)) ∧ w'.cell? ⟨(ad714.add (((ji10)).toNat * 2)).block,(ad714.add (((ji10)).toNat * 2)).off + 1,none⟩ = some (.int .i64 ((rd_T57 l0 (ji10)).f1))) (ds:=[]) (bl 0 33) (by kernel_rfl) rfl rfl ⟨((HB.out.cell (World.block_lt_of_cell? w _ hw714_0)).trans hw714_0),((HB.out.cell (World.block_lt_of_cell? w _ hw714_1)).trans hw714_1),((HB.out.cell (World.block_lt_of_cell? w _ hw716_0)).trans hw716_0),((HB.out.cell (World.block_lt_of_cell? w _ hw716_1)).trans hw716_1),((HB.out.cell (World.block_lt_of_cell? w _ hw717_0)).trans hw717_0),((HB.out.cell (World.block_lt_of_cell? w _ hw717_1)).trans hw717_1),((HB.out.cell (World.block_lt_of_cell? w _ hw718_0)).trans hw718_0),((HB.out.cell (World.block_lt_of_cell? w _ hw718_1)).trans hw718_1)⟩ (fun hHeld => ?_);refine with_tabW bursarref03_Valid.tab6 bursarref03_Valid.bits6 (fun HT_ HW_ => ?_)
    generalize wr.drew = w15 at HB hx714_0 hx714_1 hx716_0 hx716_1 hx717_0 hx717_1 hx718_0 hx718_1 hHeld ⊢
    refine pure_ (i:=0) (N:=some 13) (v:=?_) (a':=?_) (bl 1 32) rfl rfl (any_of HT_.out (by kernel_rfl)) (fun _ _ _ h => h) (Or.inl ⟨by rfl,?_⟩) ?_ ?_
    rotate_left;·intro w';go_simp;with_reducible rfl
    rotate_left;·simp only [pu_];rfl
    refine pure_ (i:=1) (N:=some 14) (v:=?_) (a':=?_) (bl 2 31) rfl rfl (any_of HT_.out (by kernel_rfl)) (fun _ _ _ h => h) (Or.inl ⟨by rfl,?_⟩) ?_ ?_
    rotate_left;·intro w';go_simp;with_reducible rfl
    rotate_left;·simp only [pu_];rfl
    refine pure_ (i:=2) (N:=some 15) (v:=?_) (a':=?_) (bl 3 30) rfl rfl (any_of HT_.out (by kernel_rfl)) (fun _ _ _ h => h) (Or.inl ⟨by rfl,?_⟩) ?_ ?_
    rotate_left;·intro w';go_simp;with_reducible rfl
    rotate_left;·simp only [pu_];rfl
    refine pure_ (i:=3) (N:=some 16) (v:=?_) (a':=?_) (bl 4 29) rfl rfl (any_of HT_.out (by kernel_rfl)) (fun _ _ _ h => h) (Or.inl ⟨by rfl,?_⟩) ?_ ?_
    rotate_left;·intro w';go_simp;with_reducible rfl
    rotate_left;·simp only [pu_];rfl
    refine take_ (i:=4) (N:=some 17) (v:=?_) (a':=?_) (bl 5 28) rfl rfl (take_ofW HT_.out HW_.out (by kernel_rfl)) (fun _ _ _ h => h) (Or.inl ⟨by rfl,?_⟩) hHeld ?_ ?_
    rotate_left
    ·rintro w' ⟨s0,s1,s2,s3,s4,s5,s6,s7⟩
     go_simp
     with_reducible rfl
    rotate_left
    ·simp only [pu_]
     rfl
    refine one_ (i:=5) (N:=some 18) (bl 6 27) rfl rfl (one_of HT_.out (by kernel_rfl)) (by decide) (fun K hK => ?_)
    refine goes_ Tryz.func75 (by kernel_rfl) rfl #[.string ((rd_T57 l0 x3_1).f0)] (by rfl) rfl rfl (by (try simp only [List.map_toArray,List.map_cons,List.map_nil]);first|done|rfl|(simp only [List.length_drop,List.length_take];rfl)) ?_
    with_reducible refine (bursarref03_Resource.calls k1 ((rd_T57 l0 x3_1).f0) true _ A5.out).mono ?_
    rintro e w' ⟨rfl,⟨nd,rfl⟩⟩
    refine ⟨_,rfl,?_⟩
    refine hK.out _ _ ⟨((HB.out.cell (World.block_lt_of_cell? w _ hw714_0)).trans hw714_0),((HB.out.cell (World.block_lt_of_cell? w _ hw714_1)).trans hw714_1),((HB.out.cell (World.block_lt_of_cell? w _ hw716_0)).trans hw716_0),((HB.out.cell (World.block_lt_of_cell? w _ hw716_1)).trans hw716_1),((HB.out.cell (World.block_lt_of_cell? w _ hw717_0)).trans hw717_0),((HB.out.cell (World.block_lt_of_cell? w _ hw717_1)).trans hw717_1),((HB.out.cell (World.block_lt_of_cell? w _ hw718_0)).trans hw718_0),((HB.out.cell (World.block_lt_of_cell? w _ hw718_1)).trans hw718_1)⟩ (fun hHeld => ?_)
    clear hK K
    refine norm_ (a':=?_) ?_ ?_
    rotate_left
    ·show Act.put _ (some 18) _ = _
     simp only [pu_]
     rfl
    refine pure_ (i:=6) (N:=some 19) (v:=?_) (a':=?_) (bl 7 26) rfl rfl (any_of HT_.out (by kernel_rfl)) (fun _ _ _ h => h) (Or.inl ⟨by rfl,?_⟩) ?_ ?_
    rotate_left;·intro w';go_simp;with_reducible rfl
    rotate_left;·simp only [pu_];rfl
    refine pure_ (i:=7) (N:=some 20) (v:=?_) (a':=?_) (bl 8 25) rfl rfl (any_of HT_.out (by kernel_rfl)) (fun _ _ _ h => h) (Or.inl ⟨by rfl,?_⟩) ?_ ?_
    rotate_left;·intro w';go_simp;with_reducible rfl
    rotate_left;·simp only [pu_];rfl
    refine pure_ (i:=8) (N:=some 21) (v:=?_) (a':=?_) (bl 9 24) rfl rfl (any_of HT_.out (by kernel_rfl)) (fun _ _ _ h => h) (Or.inl ⟨by rfl,?_⟩) ?_ ?_
    rotate_left;·intro w';go_simp;with_reducible rfl
    rotate_left;·simp only [pu_];rfl
    refine pure_ (i:=9) (N:=some 22) (v:=?_) (a':=?_) (bl 10 23) rfl rfl (any_of HT_.out (by kernel_rfl)) (fun _ _ _ h => h) (Or.inl ⟨by rfl,?_⟩) ?_ ?_
    rotate_left;·intro w';go_simp;with_reducible rfl
    rotate_left;·simp only [pu_];rfl
    refine pure_ (i:=10) (N:=some 23) (v:=?_) (a':=?_) (bl 11 22) rfl rfl (any_of HT_.out (by kernel_rfl)) (fun _ _ _ h => h) (Or.inl ⟨by rfl,?_⟩) ?_ ?_
    rotate_left;·intro w';go_simp;with_reducible rfl
    rotate_left;·simp only [pu_];rfl
    refine pure_ (i:=11) (N:=some 24) (v:=?_) (a':=?_) (bl 12 21) rfl rfl (any_of HT_.out (by kernel_rfl)) (fun _ _ _ h => h) (Or.inl ⟨by rfl,?_⟩) ?_ ?_
    rotate_left;·intro w';go_simp;with_reducible rfl
    rotate_left;·simp only [pu_];rfl
    refine take_ (i:=12) (N:=some 25) (v:=?_) (a':=?_) (bl 13 20) rfl rfl (take_ofW HT_.out HW_.out (by kernel_rfl)) (fun _ _ _ h => h) (Or.inl ⟨by rfl,?_⟩) hHeld ?_ ?_
    rotate_left
    ·rintro w' ⟨s0,s1,s2,s3,s4,s5,s6,s7⟩
     go_simp
     with_reducible rfl
    rotate_left
    ·simp only [pu_]
     rfl
    refine pure_ (i:=13) (N:=some 26) (v:=?_) (a':=?_) (bl 14 19) rfl rfl (any_of HT_.out (by kernel_rfl)) (fun _ _ _ h => h) (Or.inl ⟨by rfl,?_⟩) ?_ ?_
    rotate_left;·intro w';go_simp;with_reducible rfl
    rotate_left;·simp only [pu_];rfl
    refine pure_ (i:=14) (N:=some 27) (v:=?_) (a':=?_) (bl 15 18) rfl rfl (any_of HT_.out (by kernel_rfl)) (fun _ _ _ h => h) (Or.inl ⟨by rfl,?_⟩) ?_ ?_
    rotate_left;·intro w';go_simp;with_reducible rfl
    rotate_left;·simp only [pu_];rfl
    refine pure_ (i:=15) (N:=some 28) (v:=?_) (a':=?_) (bl 16 17) rfl rfl (any_of HT_.out (by kernel_rfl)) (fun _ _ _ h => h) (Or.inl ⟨by rfl,?_⟩) ?_ ?_
    rotate_left;·intro w';go_simp;with_reducible rfl
    rotate_left;·simp only [pu_];rfl
    refine pure_ (i:=16) (N:=some 29) (v:=?_) (a':=?_) (bl 17 16) rfl rfl (any_of HT_.out (by kernel_rfl)) (fun _ _ _ h => h) (Or.inl ⟨by rfl,?_⟩) ?_ ?_
    rotate_left;·intro w';go_simp;with_reducible rfl
    rotate_left;·simp only [pu_];rfl
    refine pure_ (i:=17) (N:=some 30) (v:=?_) (a':=?_) (bl 18 15) rfl rfl (any_of HT_.out (by kernel_rfl)) (fun _ _ _ h => h) (Or.inl ⟨by rfl,?_⟩) ?_ ?_
    rotate_left;·intro w';go_simp;with_reducible rfl
    rotate_left;·simp only [pu_];rfl
    refine pure_ (i:=18) (N:=some 31) (v:=?_) (a':=?_) (bl 19 14) rfl rfl (any_of HT_.out (by kernel_rfl)) (fun _ _ _ h => h) (Or.inl ⟨by rfl,?_⟩) ?_ ?_
    rotate_left;·intro w';go_simp;with_reducible rfl
    rotate_left;·simp only [pu_];rfl
    refine pure_ (i:=19) (N:=some 32) (v:=?_) (a':=?_) (bl 20 13) rfl rfl (any_of HT_.out (by kernel_rfl)) (fun _ _ _ h => h) (Or.inl ⟨by rfl,?_⟩) ?_ ?_
    rotate_left;·intro w';go_simp;with_reducible rfl
    rotate_left;·simp only [pu_];rfl
    refine pure_ (i:=20) (N:=some 33) (v:=?_) (a':=?_) (bl 21 12) rfl rfl (any_of HT_.out (by kernel_rfl)) (fun _ _ _ h => h) (Or.inl ⟨by rfl,?_⟩) ?_ ?_
    rotate_left;·intro w';go_simp;with_reducible rfl
    rotate_left;·simp only [pu_];rfl
    refine pure_ (i:=21) (N:=some 34) (v:=?_) (a':=?_) (bl 22 11) rfl rfl (any_of HT_.out (by kernel_rfl)) (fun _ _ _ h => h) (Or.inl ⟨by rfl,?_⟩) ?_ ?_
    rotate_left;·intro w';go_simp;with_reducible rfl
    rotate_left;·simp only [pu_];rfl
    refine pure_ (i:=22) (N:=some 35) (v:=?_) (a':=?_) (bl 23 10) rfl rfl (any_of HT_.out (by kernel_rfl)) (fun _ _ _ h => h) (Or.inl ⟨by rfl,?_⟩) ?_ ?_
    rotate_left;·intro w';go_simp;with_reducible rfl
    rotate_left;·simp only [pu_];rfl
    refine pure_ (i:=24) (N:=some 37) (v:=?_) (a':=?_) #[true,true,true,true,true,true,true,true,true,true,true,true,true,true,true,true,true,true,true,true,true,true,true,false,true,false,false,false,false,false,false,false,false] rfl rfl (any_of HT_.out (by kernel_rfl)) (fun _ _ _ h => h) (Or.inl ⟨by rfl,?_⟩) ?_ ?_
    rotate_left;·intro w';go_simp;with_reducible rfl
    rotate_left;·simp only [pu_];rfl
    refine pure_ (i:=25) (N:=some 38) (v:=?_) (a':=?_) #[true,true,true,true,true,true,true,true,true,true,true,true,true,true,true,true,true,true,true,true,true,true,true,false,true,true,false,false,false,false,false,false,false] rfl rfl (any_of HT_.out (by kernel_rfl)) (fun _ _ _ h => h) (Or.inl ⟨by rfl,?_⟩) ?_ ?_
    rotate_left;·intro w';go_simp;with_reducible rfl
    rotate_left;·simp only [pu_];rfl
    refine pure_ (i:=26) (N:=some 39) (v:=?_) (a':=?_) #[true,true,true,true,true,true,true,true,true,true,true,true,true,true,true,true,true,true,true,true,true,true,true,false,true,true,true,false,false,false,false,false,false] rfl rfl (any_of HT_.out (by kernel_rfl)) (fun _ _ _ h => h) (Or.inl ⟨by rfl,?_⟩) ?_ ?_
    rotate_left;·intro w';go_simp;with_reducible rfl
    rotate_left;·simp only [pu_];rfl
    refine pure_ (i:=27) (N:=some 40) (v:=?_) (a':=?_) #[true,true,true,true,true,true,true,true,true,true,true,true,true,true,true,true,true,true,true,true,true,true,true,false,true,true,true,true,false,false,false,false,false] rfl rfl (any_of HT_.out (by kernel_rfl)) (fun _ _ _ h => h) (Or.inl ⟨by rfl,?_⟩) ?_ ?_
    rotate_left;·intro w';go_simp;with_reducible rfl
    rotate_left;·simp only [pu_];rfl
    refine pure_ (i:=28) (N:=some 41) (v:=?_) (a':=?_) #[true,true,true,true,true,true,true,true,true,true,true,true,true,true,true,true,true,true,true,true,true,true,true,false,true,true,true,true,true,false,false,false,false] rfl rfl (any_of HT_.out (by kernel_rfl)) (fun _ _ _ h => h) (Or.inl ⟨by rfl,?_⟩) ?_ ?_
    rotate_left;·intro w';go_simp;with_reducible rfl
    rotate_left;·simp only [pu_];rfl
    refine take_ (i:=23) (N:=some 36) (v:=?_) (a':=?_) (bl 29 4) rfl rfl (take_ofW HT_.out HW_.out (by kernel_rfl)) (fun _ _ _ h => h) (Or.inl ⟨by rfl,?_⟩) hHeld ?_ ?_
    rotate_left
    ·rintro w' ⟨s0,s1,s2,s3,s4,s5,s6,s7⟩
     go_simp
     with_reducible rfl
    rotate_left
    ·simp only [pu_]
     rfl
    refine take_ (i:=29) (N:=some 42) (v:=?_) (a':=?_) (bl 30 3) rfl rfl (take_ofW HT_.out HW_.out (by kernel_rfl)) (fun _ _ _ h => h) (Or.inl ⟨by rfl,?_⟩) hHeld ?_ ?_
    rotate_left
    ·rintro w' ⟨s0,s1,s2,s3,s4,s5,s6,s7⟩
     go_simp
     with_reducible rfl
    rotate_left
    ·simp only [pu_]
     rfl
    refine pure_ (i:=30) (N:=some 43) (v:=?_) (a':=?_) (bl 31 2) rfl rfl (any_of HT_.out (by kernel_rfl)) (fun _ _ _ h => h) (Or.inl ⟨by rfl,?_⟩) ?_ ?_
    rotate_left;·intro w';go_simp;with_reducible rfl
    rotate_left;·simp only [pu_];rfl
    refine pure_ (i:=31) (N:=some 44) (v:=?_) (a':=?_) (bl 32 1) rfl rfl (any_of HT_.out (by kernel_rfl)) (fun _ _ _ h => h) (Or.inl ⟨by rfl,?_⟩) ?_ ?_
    rotate_left;·intro w';go_simp;with_reducible rfl
    rotate_left;·simp only [pu_];rfl
    refine pure_ (i:=32) (N:=some 45) (v:=?_) (a':=?_) (bl 33 0) rfl rfl (any_of HT_.out (by kernel_rfl)) (fun _ _ _ h => h) (Or.inl ⟨by rfl,?_⟩) ?_ ?_
    rotate_left;·intro w';go_simp;with_reducible rfl
    rotate_left;·simp only [pu_];rfl
    refine done_ (done_of HT_.out (by kernel_rfl)) ?_
    try go_wp2
    go_ret
    exact ⟨by first|rfl|(simp [errW_none,errW_some] <;> rfl)|(simp only [← hji10];first|rfl|(simp [errW_none,errW_some] <;> rfl))|(simp [*,errW_none,errW_some] <;> rfl),by repeat (first|(with_reducible first|exact HB.out|apply below_alloc|apply pw_below_drewN|apply below_drew1)|exact HB.out)⟩
   rw [if_pos c13] at H
   have c13b0 : (Op.bytesLess (((rd_T57 l0 (ji10)).f0).toList) (((rd_T57 l0 x3_1).f0).toList)) = true:=c13
   clear c13
   have H':=Aside0.mk H
   clear H
   try go_wp2
   have n0_:=Aside0.mk (below_drew1 HB.out)
   clear HB;have HB:=n0_;clear n0_
   have p714 : 0 ≤ (x3_1 : Int):=of_decide_eq_true (by first|(with_reducible assumption)|assumption)
   have q714 : x3_1 < (l0.length : Int):=of_decide_eq_true (by first|(with_reducible assumption)|assumption)
   obtain ⟨ad714,e714,hx714_0,hx714_1⟩:=at_T57 HR0.out x3_1 p714 q714
   have hw714_1:=hx714_1;have hw714_0:=hx714_0
   cases e714
   replace hx714_0:=(HB.out.cell (World.block_lt_of_cell? w _ hx714_0)).trans hx714_0
   replace hx714_1:=(HB.out.cell (World.block_lt_of_cell? w _ hx714_1)).trans hx714_1
   replace p714:=eq_true p714
   replace q714:=eq_true q714
   have p716 : 0 ≤ (x3_1 : Int):=of_decide_eq_true (by first|(with_reducible assumption)|assumption)
   have q716 : x3_1 < (l0.length : Int):=of_decide_eq_true (by first|(with_reducible assumption)|assumption)
   obtain ⟨ad716,e716,hx716_0,hx716_1⟩:=at_T57 HR0.out x3_1 p716 q716
   have hw716_1:=hx716_1;have hw716_0:=hx716_0
   obtain rfl : ad714 = ad716:=(by injection e716)
   replace hx716_0:=(HB.out.cell (World.block_lt_of_cell? w _ hx716_0)).trans hx716_0
   replace hx716_1:=(HB.out.cell (World.block_lt_of_cell? w _ hx716_1)).trans hx716_1
   replace p716:=eq_true p716
   replace q716:=eq_true q716
   have p717 : 0 ≤ (x3_1 : Int):=of_decide_eq_true (by first|(with_reducible assumption)|assumption)
   have q717 : x3_1 < (l0.length : Int):=of_decide_eq_true (by first|(with_reducible assumption)|assumption)
   obtain ⟨ad717,e717,hx717_0,hx717_1⟩:=at_T57 HR0.out x3_1 p717 q717
   have hw717_1:=hx717_1;have hw717_0:=hx717_0
   obtain rfl : ad714 = ad717:=(by injection e717)
   replace hx717_0:=(HB.out.cell (World.block_lt_of_cell? w _ hx717_0)).trans hx717_0
   replace hx717_1:=(HB.out.cell (World.block_lt_of_cell? w _ hx717_1)).trans hx717_1
   replace p717:=eq_true p717
   replace q717:=eq_true q717
   have p718 : 0 ≤ ((ji10) : Int):=of_decide_eq_true (by first|(with_reducible assumption)|assumption)
   have q718 : (ji10) < (l0.length : Int):=of_decide_eq_true (by first|(with_reducible assumption)|assumption)
   obtain ⟨ad718,e718,hx718_0,hx718_1⟩:=at_T57 HR0.out (ji10) p718 q718
   have hw718_1:=hx718_1;have hw718_0:=hx718_0
   obtain rfl : ad714 = ad718:=(by injection e718)
   replace hx718_0:=(HB.out.cell (World.block_lt_of_cell? w _ hx718_0)).trans hx718_0
   replace hx718_1:=(HB.out.cell (World.block_lt_of_cell? w _ hx718_1)).trans hx718_1
   replace p718:=eq_true p718
   replace q718:=eq_true q718
   refine start_ (n:=33) (S:=fun w' => w'.cell? (ad714.add ((x3_1).toNat * 2)) = some (.string ((rd_T57 l0 x3_1).f0)) ∧ w'.cell? ⟨(ad714.add ((x3_1).toNat * 2)).block,(ad714.add ((x3_1).toNat * 2)).off + 1,none⟩ = some (.int .i64 ((rd_T57 l0 x3_1).f1)) ∧ w'.cell? (ad714.add ((x3_1).toNat * 2)) = some (.string ((rd_T57 l0 x3_1).f0)) ∧ w'.cell? ⟨(ad714.add ((x3_1).toNat * 2)).block,(ad714.add ((x3_1).toNat * 2)).off + 1,none⟩ = some (.int .i64 ((rd_T57 l0 x3_1).f1)) ∧ w'.cell? (ad714.add ((x3_1).toNat * 2)) = some (.string ((rd_T57 l0 x3_1).f0)) ∧ w'.cell? ⟨(ad714.add ((x3_1).toNat * 2)).block,(ad714.add ((x3_1).toNat * 2)).off + 1,none⟩ = some (.int .i64 ((rd_T57 l0 x3_1).f1)) ∧ w'.cell? (ad714.add (((ji10)).toNat * 2)) = some (.string ((rd_T57 l0 (ji10)).f0)) ∧ w'.cell? ⟨(ad714.add (((ji10)).toNat * 2)).block,(ad714.add (((ji10)).toNat * 2)).off + 1,none⟩ = some (.int .i64 ((rd_T57 l0 (ji10)).f1))) (ds:=[]) (bl 0 33) (by kernel_rfl) rfl rfl ⟨((HB.out.cell (World.block_lt_of_cell? w _ hw714_0)).trans hw714_0),((HB.out.cell (World.block_lt_of_cell? w _ hw714_1)).trans hw714_1),((HB.out.cell (World.block_lt_of_cell? w _ hw716_0)).trans hw716_0),((HB.out.cell (World.block_lt_of_cell? w _ hw716_1)).trans hw716_1),((HB.out.cell (World.block_lt_of_cell? w _ hw717_0)).trans hw717_0),((HB.out.cell (World.block_lt_of_cell? w _ hw717_1)).trans hw717_1),((HB.out.cell (World.block_lt_of_cell? w _ hw718_0)).trans hw718_0),((HB.out.cell (World.block_lt_of_cell? w _ hw718_1)).trans hw718_1)⟩ (fun hHeld => ?_);refine with_tabW bursarref03_Valid.tab6 bursarref03_Valid.bits6 (fun HT_ HW_ => ?_)
   generalize wr.drew = w14 at HB hx714_0 hx714_1 hx716_0 hx716_1 hx717_0 hx717_1 hx718_0 hx718_1 hHeld ⊢
   refine pure_ (i:=0) (N:=some 13) (v:=?_) (a':=?_) (bl 1 32) rfl rfl (any_of HT_.out (by kernel_rfl)) (fun _ _ _ h => h) (Or.inl ⟨by rfl,?_⟩) ?_ ?_
   rotate_left;·intro w';go_simp;with_reducible rfl
   rotate_left;·simp only [pu_];rfl
   refine pure_ (i:=1) (N:=some 14) (v:=?_) (a':=?_) (bl 2 31) rfl rfl (any_of HT_.out (by kernel_rfl)) (fun _ _ _ h => h) (Or.inl ⟨by rfl,?_⟩) ?_ ?_
   rotate_left;·intro w';go_simp;with_reducible rfl
   rotate_left;·simp only [pu_];rfl
   refine pure_ (i:=2) (N:=some 15) (v:=?_) (a':=?_) (bl 3 30) rfl rfl (any_of HT_.out (by kernel_rfl)) (fun _ _ _ h => h) (Or.inl ⟨by rfl,?_⟩) ?_ ?_
   rotate_left;·intro w';go_simp;with_reducible rfl
   rotate_left;·simp only [pu_];rfl
   refine pure_ (i:=3) (N:=some 16) (v:=?_) (a':=?_) (bl 4 29) rfl rfl (any_of HT_.out (by kernel_rfl)) (fun _ _ _ h => h) (Or.inl ⟨by rfl,?_⟩) ?_ ?_
   rotate_left;·intro w';go_simp;with_reducible rfl
   rotate_left;·simp only [pu_];rfl
   refine take_ (i:=4) (N:=some 17) (v:=?_) (a':=?_) (bl 5 28) rfl rfl (take_ofW HT_.out HW_.out (by kernel_rfl)) (fun _ _ _ h => h) (Or.inl ⟨by rfl,?_⟩) hHeld ?_ ?_
   rotate_left
   ·rintro w' ⟨s0,s1,s2,s3,s4,s5,s6,s7⟩
    go_simp
    with_reducible rfl
   rotate_left
   ·simp only [pu_]
    rfl
   refine one_ (i:=5) (N:=some 18) (bl 6 27) rfl rfl (one_of HT_.out (by kernel_rfl)) (by decide) (fun K hK => ?_)
   refine goes_ Tryz.func75 (by kernel_rfl) rfl #[.string ((rd_T57 l0 x3_1).f0)] (by rfl) rfl rfl (by (try simp only [List.map_toArray,List.map_cons,List.map_nil]);first|done|rfl|(simp only [List.length_drop,List.length_take];rfl)) ?_
   with_reducible refine (bursarref03_Resource.calls k1 ((rd_T57 l0 x3_1).f0) true _ A5.out).mono ?_
   rintro e w' ⟨rfl,⟨nd,rfl⟩⟩
   refine ⟨_,rfl,?_⟩
   refine hK.out _ _ ⟨((HB.out.cell (World.block_lt_of_cell? w _ hw714_0)).trans hw714_0),((HB.out.cell (World.block_lt_of_cell? w _ hw714_1)).trans hw714_1),((HB.out.cell (World.block_lt_of_cell? w _ hw716_0)).trans hw716_0),((HB.out.cell (World.block_lt_of_cell? w _ hw716_1)).trans hw716_1),((HB.out.cell (World.block_lt_of_cell? w _ hw717_0)).trans hw717_0),((HB.out.cell (World.block_lt_of_cell? w _ hw717_1)).trans hw717_1),((HB.out.cell (World.block_lt_of_cell? w _ hw718_0)).trans hw718_0),((HB.out.cell (World.block_lt_of_cell? w _ hw718_1)).trans hw718_1)⟩ (fun hHeld => ?_)
   clear hK K
   refine norm_ (a':=?_) ?_ ?_
   rotate_left
   ·show Act.put _ (some 18) _ = _
    simp only [pu_]
    rfl
   refine pure_ (i:=6) (N:=some 19) (v:=?_) (a':=?_) (bl 7 26) rfl rfl (any_of HT_.out (by kernel_rfl)) (fun _ _ _ h => h) (Or.inl ⟨by rfl,?_⟩) ?_ ?_
   rotate_left;·intro w';go_simp;with_reducible rfl
   rotate_left;·simp only [pu_];rfl
   refine pure_ (i:=7) (N:=some 20) (v:=?_) (a':=?_) (bl 8 25) rfl rfl (any_of HT_.out (by kernel_rfl)) (fun _ _ _ h => h) (Or.inl ⟨by rfl,?_⟩) ?_ ?_
   rotate_left;·intro w';go_simp;with_reducible rfl
   rotate_left;·simp only [pu_];rfl
   refine pure_ (i:=8) (N:=some 21) (v:=?_) (a':=?_) (bl 9 24) rfl rfl (any_of HT_.out (by kernel_rfl)) (fun _ _ _ h => h) (Or.inl ⟨by rfl,?_⟩) ?_ ?_
   rotate_left;·intro w';go_simp;with_reducible rfl
   rotate_left;·simp only [pu_];rfl
   refine pure_ (i:=9) (N:=some 22) (v:=?_) (a':=?_) (bl 10 23) rfl rfl (any_of HT_.out (by kernel_rfl)) (fun _ _ _ h => h) (Or.inl ⟨by rfl,?_⟩) ?_ ?_
   rotate_left;·intro w';go_simp;with_reducible rfl
   rotate_left;·simp only [pu_];rfl
   refine pure_ (i:=10) (N:=some 23) (v:=?_) (a':=?_) (bl 11 22) rfl rfl (any_of HT_.out (by kernel_rfl)) (fun _ _ _ h => h) (Or.inl ⟨by rfl,?_⟩) ?_ ?_
   rotate_left;·intro w';go_simp;with_reducible rfl
   rotate_left;·simp only [pu_];rfl
   refine pure_ (i:=11) (N:=some 24) (v:=?_) (a':=?_) (bl 12 21) rfl rfl (any_of HT_.out (by kernel_rfl)) (fun _ _ _ h => h) (Or.inl ⟨by rfl,?_⟩) ?_ ?_
   rotate_left;·intro w';go_simp;with_reducible rfl
   rotate_left;·simp only [pu_];rfl
   refine take_ (i:=12) (N:=some 25) (v:=?_) (a':=?_) (bl 13 20) rfl rfl (take_ofW HT_.out HW_.out (by kernel_rfl)) (fun _ _ _ h => h) (Or.inl ⟨by rfl,?_⟩) hHeld ?_ ?_
   rotate_left
   ·rintro w' ⟨s0,s1,s2,s3,s4,s5,s6,s7⟩
    go_simp
    with_reducible rfl
   rotate_left
   ·simp only [pu_]
    rfl
   refine pure_ (i:=13) (N:=some 26) (v:=?_) (a':=?_) (bl 14 19) rfl rfl (any_of HT_.out (by kernel_rfl)) (fun _ _ _ h => h) (Or.inl ⟨by rfl,?_⟩) ?_ ?_
   rotate_left;·intro w';go_simp;with_reducible rfl
   rotate_left;·simp only [pu_];rfl
   refine pure_ (i:=14) (N:=some 27) (v:=?_) (a':=?_) (bl 15 18) rfl rfl (any_of HT_.out (by kernel_rfl)) (fun _ _ _ h => h) (Or.inl ⟨by rfl,?_⟩) ?_ ?_
   rotate_left;·intro w';go_simp;with_reducible rfl
   rotate_left;·simp only [pu_];rfl
   refine pure_ (i:=15) (N:=some 28) (v:=?_) (a':=?_) (bl 16 17) rfl rfl (any_of HT_.out (by kernel_rfl)) (fun _ _ _ h => h) (Or.inl ⟨by rfl,?_⟩) ?_ ?_
   rotate_left;·intro w';go_simp;with_reducible rfl
   rotate_left;·simp only [pu_];rfl
   refine pure_ (i:=16) (N:=some 29) (v:=?_) (a':=?_) (bl 17 16) rfl rfl (any_of HT_.out (by kernel_rfl)) (fun _ _ _ h => h) (Or.inl ⟨by rfl,?_⟩) ?_ ?_
   rotate_left;·intro w';go_simp;with_reducible rfl
   rotate_left;·simp only [pu_];rfl
   refine pure_ (i:=17) (N:=some 30) (v:=?_) (a':=?_) (bl 18 15) rfl rfl (any_of HT_.out (by kernel_rfl)) (fun _ _ _ h => h) (Or.inl ⟨by rfl,?_⟩) ?_ ?_
   rotate_left;·intro w';go_simp;with_reducible rfl
   rotate_left;·simp only [pu_];rfl
   refine pure_ (i:=18) (N:=some 31) (v:=?_) (a':=?_) (bl 19 14) rfl rfl (any_of HT_.out (by kernel_rfl)) (fun _ _ _ h => h) (Or.inl ⟨by rfl,?_⟩) ?_ ?_
   rotate_left;·intro w';go_simp;with_reducible rfl
   rotate_left;·simp only [pu_];rfl
   refine pure_ (i:=19) (N:=some 32) (v:=?_) (a':=?_) (bl 20 13) rfl rfl (any_of HT_.out (by kernel_rfl)) (fun _ _ _ h => h) (Or.inl ⟨by rfl,?_⟩) ?_ ?_
   rotate_left;·intro w';go_simp;with_reducible rfl
   rotate_left;·simp only [pu_];rfl
   refine pure_ (i:=20) (N:=some 33) (v:=?_) (a':=?_) (bl 21 12) rfl rfl (any_of HT_.out (by kernel_rfl)) (fun _ _ _ h => h) (Or.inl ⟨by rfl,?_⟩) ?_ ?_
   rotate_left;·intro w';go_simp;with_reducible rfl
   rotate_left;·simp only [pu_];rfl
   refine pure_ (i:=21) (N:=some 34) (v:=?_) (a':=?_) (bl 22 11) rfl rfl (any_of HT_.out (by kernel_rfl)) (fun _ _ _ h => h) (Or.inl ⟨by rfl,?_⟩) ?_ ?_
   rotate_left;·intro w';go_simp;with_reducible rfl
   rotate_left;·simp only [pu_];rfl
   refine pure_ (i:=22) (N:=some 35) (v:=?_) (a':=?_) (bl 23 10) rfl rfl (any_of HT_.out (by kernel_rfl)) (fun _ _ _ h => h) (Or.inl ⟨by rfl,?_⟩) ?_ ?_
   rotate_left;·intro w';go_simp;with_reducible rfl
   rotate_left;·simp only [pu_];rfl
   refine pure_ (i:=24) (N:=some 37) (v:=?_) (a':=?_) #[true,true,true,true,true,true,true,true,true,true,true,true,true,true,true,true,true,true,true,true,true,true,true,false,true,false,false,false,false,false,false,false,false] rfl rfl (any_of HT_.out (by kernel_rfl)) (fun _ _ _ h => h) (Or.inl ⟨by rfl,?_⟩) ?_ ?_
   rotate_left;·intro w';go_simp;with_reducible rfl
   rotate_left;·simp only [pu_];rfl
   refine pure_ (i:=25) (N:=some 38) (v:=?_) (a':=?_) #[true,true,true,true,true,true,true,true,true,true,true,true,true,true,true,true,true,true,true,true,true,true,true,false,true,true,false,false,false,false,false,false,false] rfl rfl (any_of HT_.out (by kernel_rfl)) (fun _ _ _ h => h) (Or.inl ⟨by rfl,?_⟩) ?_ ?_
   rotate_left;·intro w';go_simp;with_reducible rfl
   rotate_left;·simp only [pu_];rfl
   refine pure_ (i:=26) (N:=some 39) (v:=?_) (a':=?_) #[true,true,true,true,true,true,true,true,true,true,true,true,true,true,true,true,true,true,true,true,true,true,true,false,true,true,true,false,false,false,false,false,false] rfl rfl (any_of HT_.out (by kernel_rfl)) (fun _ _ _ h => h) (Or.inl ⟨by rfl,?_⟩) ?_ ?_
   rotate_left;·intro w';go_simp;with_reducible rfl
   rotate_left;·simp only [pu_];rfl
   refine pure_ (i:=27) (N:=some 40) (v:=?_) (a':=?_) #[true,true,true,true,true,true,true,true,true,true,true,true,true,true,true,true,true,true,true,true,true,true,true,false,true,true,true,true,false,false,false,false,false] rfl rfl (any_of HT_.out (by kernel_rfl)) (fun _ _ _ h => h) (Or.inl ⟨by rfl,?_⟩) ?_ ?_
   rotate_left;·intro w';go_simp;with_reducible rfl
   rotate_left;·simp only [pu_];rfl
   refine pure_ (i:=28) (N:=some 41) (v:=?_) (a':=?_) #[true,true,true,true,true,true,true,true,true,true,true,true,true,true,true,true,true,true,true,true,true,true,true,false,true,true,true,true,true,false,false,false,false] rfl rfl (any_of HT_.out (by kernel_rfl)) (fun _ _ _ h => h) (Or.inl ⟨by rfl,?_⟩) ?_ ?_
   rotate_left;·intro w';go_simp;with_reducible rfl
   rotate_left;·simp only [pu_];rfl
   refine take_ (i:=23) (N:=some 36) (v:=?_) (a':=?_) (bl 29 4) rfl rfl (take_ofW HT_.out HW_.out (by kernel_rfl)) (fun _ _ _ h => h) (Or.inl ⟨by rfl,?_⟩) hHeld ?_ ?_
   rotate_left
   ·rintro w' ⟨s0,s1,s2,s3,s4,s5,s6,s7⟩
    go_simp
    with_reducible rfl
   rotate_left
   ·simp only [pu_]
    rfl
   refine take_ (i:=29) (N:=some 42) (v:=?_) (a':=?_) (bl 30 3) rfl rfl (take_ofW HT_.out HW_.out (by kernel_rfl)) (fun _ _ _ h => h) (Or.inl ⟨by rfl,?_⟩) hHeld ?_ ?_
   rotate_left
   ·rintro w' ⟨s0,s1,s2,s3,s4,s5,s6,s7⟩
    go_simp
    with_reducible rfl
   rotate_left
   ·simp only [pu_]
    rfl
   refine pure_ (i:=30) (N:=some 43) (v:=?_) (a':=?_) (bl 31 2) rfl rfl (any_of HT_.out (by kernel_rfl)) (fun _ _ _ h => h) (Or.inl ⟨by rfl,?_⟩) ?_ ?_
   rotate_left;·intro w';go_simp;with_reducible rfl
   rotate_left;·simp only [pu_];rfl
   refine pure_ (i:=31) (N:=some 44) (v:=?_) (a':=?_) (bl 32 1) rfl rfl (any_of HT_.out (by kernel_rfl)) (fun _ _ _ h => h) (Or.inl ⟨by rfl,?_⟩) ?_ ?_
   rotate_left;·intro w';go_simp;with_reducible rfl
   rotate_left;·simp only [pu_];rfl
   refine pure_ (i:=32) (N:=some 45) (v:=?_) (a':=?_) (bl 33 0) rfl rfl (any_of HT_.out (by kernel_rfl)) (fun _ _ _ h => h) (Or.inl ⟨by rfl,?_⟩) ?_ ?_
   rotate_left;·intro w';go_simp;with_reducible rfl
   rotate_left;·simp only [pu_];rfl
   refine done_ (done_of HT_.out (by kernel_rfl)) ?_
   try go_wp2
   go_roundg k1
   case measure => have:=HK1.out;omega
   case rel => exact ⟨(wrap64 (x3_1 + 1)),(by first|rfl|(simp;done)|(simp [*];done)|(simp;rw [Bool.eq_iff_iff];simp;done)|(rw [Bool.eq_iff_iff];simp;done)),H',⟨by have:=HK1.out;omega⟩,⟨by repeat (first|(with_reducible first|exact HB.out|apply below_alloc|apply pw_below_drewN|apply below_drew1)|exact HB.out)⟩⟩
end Go.Proofs.YtejgbdclhlolkaaGreatDoor.Q
namespace Go.Proofs.YtejgbdclhlolkaaGreatDoor.Q
open Go.RowKit Go.Proofs.YtejgbdclhlolkaaGreatDoorW.PrintWords Go.Proofs.YtejgbdclhlolkaaGreatDoorW.PrintLast Go.Proofs.YtejgbdclhlolkaaGreatDoorW.PrintMore
attribute [local go_sem] max2_int min2_int max_two min_two max_three min_three max_four min_four   -- for this text's walks alone
set_option linter.unusedVariables false
set_option linter.unusedSimpArgs false
def bursarref03_long.l0 : Nat → Int → List Int → Option (List Int)
|0,_,_ => none
|k + 1,x0,x3 => if x0 > 0 then (if x3.length < 17592186044416 then (bursarref03_long.l0 k (wrap64 (Int.tdiv x0 10)) (x3 ++ [Int.tmod x0 10])) else (none)) else (some x3)
def bursarref03_long.f (k : Nat) (a0 : Int) : Option (List Int) := bursarref03_long.l0 k a0 ([] : List Int)
theorem bursarref03_long.mono_l : ∀ k, (∀ y0 y1, LeO (bursarref03_long.l0 k y0 y1) (bursarref03_long.l0 (k + 1) y0 y1))
|0 => fun _ _ r h => by simp [bursarref03_long.l0] at h
|k + 1 => by
  have ih0:=bursarref03_long.mono_l k
  ·intro y0 y1
   unfold bursarref03_long.l0
   repeat' first
  |(with_reducible exact ih0 _ _)
  |(with_reducible exact LeO.refl _)
  |(with_reducible exact LeO.none _)
  |(with_reducible refine LeO.ite ?_ ?_)
  |(with_reducible refine LeO.bind ?_ (fun _ => ?_))
  |exact ih0 _ _
  |exact LeO.none _
  |refine LeO.ite ?_ ?_
  |refine LeO.bind ?_ (fun _ => ?_)
theorem bursarref03_long.mono : ∀ a0 k, LeO (bursarref03_long.f k a0) (bursarref03_long.f (k + 1) a0) := by
 intro a0 k
 have ih0:=bursarref03_long.mono_l k
 unfold bursarref03_long.f
 repeat' first
  |(with_reducible exact ih0 _ _)
  |(with_reducible exact LeO.refl _)
  |(with_reducible exact LeO.none _)
  |(with_reducible refine LeO.ite ?_ ?_)
  |(with_reducible refine LeO.bind ?_ (fun _ => ?_))
  |exact ih0 _ _
  |exact LeO.none _
  |refine LeO.ite ?_ ?_
  |refine LeO.bind ?_ (fun _ => ?_)
set_option maxHeartbeats 8000000 in
set_option maxRecDepth 100000 in
theorem bursarref03_long.calls (k : Nat) (a0 : Int) (r : List Int) (w : World) (h : bursarref03_long.f k a0 = some r) :
  Calls Tryz.prog 62 #[.int .i64 a0] w fun e w' => ∃ v0_ : Value,e = .returned (.agg #[v0_]) ∧ Kd.R (Kd.int .i64) 3 w' w.heap.size (fun _ => True) v0_ r ∧ Below w.heap.size w w':=by
 have hu85:=Tryz.underlying85
 have HB:=Aside0.mk (Below.refl w.heap.size w)
 have H : (bursarref03_long.l0 k a0 ([] : List Int)) = some r:=h
 clear h
 have H':=Aside0.mk H
 clear H
 go_enter Tryz.func62,Tryz.ntmps62
 go_wp2_with (first|((with_reducible refine gate_dst (N:=2) rfl ?_);refine box_event ?hg (N:=2) ?hd (cs:=#[.slice none 0 0]) (t:=85) ?hr ?_;(case hd => rfl);(case hg => rfl);(case hr => first|(go_simp;done)|(go_simp;rfl));intro gb120 hg w2 hbox hb;have n0_:=Aside0.mk (below_step (by repeat (first|(with_reducible first|exact HB.out|apply below_alloc|apply pw_below_drewN|apply below_drew1)|exact HB.out)) hb);have n1_:=Aside0.mk (hbox);have n2_:=Aside0.mk ((by rw [hg];exact (below_size (by repeat (first|(with_reducible first|exact HB.out|apply below_alloc|apply pw_below_drewN|apply below_drew1)|exact HB.out))) : w.heap.size ≤ gb120));have n3_:=Aside0.mk ((by rw [hg];exact (below_size (by repeat (first|(with_reducible first|exact HB.out|apply below_alloc|apply pw_below_drewN|apply below_drew1)|exact HB.out))) : w.heap.size ≤ gb120));clear HB;have HB:=n0_;have BK120:=n1_;have GW120:=n2_;have GE120:=n3_;clear n0_ n1_ n2_ n3_;clear hb hbox hg))
 go_loopg [0,3] k (fun kq v0 v3 w' => ∃ (x0_1 : Int) (x3_1 : List Int),v0 = .int .i64 x0_1 ∧ Aside0 (bursarref03_long.l0 kq x0_1 x3_1 = some r) ∧ Aside0 (kq ≤ k) ∧ Aside0 (Kd.R (Kd.int .i64) 3 w' w.heap.size (fun _ => True) v3 x3_1) ∧ Aside0 (w'.heap[gb120]? = some (.cells #[(.slice none 0 0)] 85 (0,0))) ∧ Aside0 (Below w.heap.size w w'))
 case atStart => exact ⟨(a0),(([] : List Int)),(by first|rfl|(simp;done)|(simp [*];done)|(simp;rw [Bool.eq_iff_iff];simp;done)|(rw [Bool.eq_iff_iff];simp;done)),H',⟨Nat.le_refl _⟩,⟨by first|exact Kd.R_nil _ _ _ _ _|exact Kd.N_nil _ _ _ _ _|exact Kd.V_nil _ _ _ _ _|exact Kd.Q_nil _ _ _ _ _|exact Kd.S_nil _ _ _ _ _⟩,⟨by (with_reducible repeat (first|refine blk_drewN ?_ _|refine blk_drew ?_|refine blk_alloc ?_ _));exact BK120.out⟩,⟨by repeat (first|(with_reducible first|exact HB.out|apply below_alloc|apply pw_below_drewN|apply below_drew1|refine below_set ?_ GE120.out)|exact HB.out)⟩⟩
 case round =>
  clear H';(try clear p2)
  obtain ⟨x0_1,x3_1,rfl,HA,HK1,HO_3,BK120,HB⟩:=hrel
  cases gk with
 |zero => exact absurd HA.out (by simp [bursarref03_long.l0])
 |succ k1 =>
   have H:=HA.out
   clear HA
   simp only [bursarref03_long.l0] at H
   by_cases c3 : x0_1 > 0
   rotate_left
   ·rw [if_neg c3] at H
    have c3b0 : decide (0 < x0_1) = false:=decide_eq_false c3
    clear c3
    obtain rfl:=Option.some.inj H
    obtain ⟨Ao6,co6,eo6⟩:=Kd.R_slice HO_3.out
    subst eo6
    have hcz7_0 : wr.cell? ⟨gb120,0,none⟩ = some (.slice none 0 0):=(blk_cell BK120.out 0).trans rfl
    have hfz7_0:=blk_frozen BK120.out 0
    go_wp2
    refine bodyPost_ret (results_cell_row rfl _ _ gb120 85 #[.slice Ao6 x3_1.length co6] (0,0) _ rfl (by (with_reducible repeat (first|refine blk_drewN ?_ _|refine blk_drew ?_|refine blk_alloc ?_ _));refine blk_put (cs:=#[.slice none 0 0]) ?_ 0 _ rfl;(with_reducible repeat (first|refine blk_drewN ?_ _|refine blk_drew ?_|refine blk_alloc ?_ _));exact BK120.out) Tryz.underlying85 rfl (by kernel_rfl)) rfl ?_
    exact ⟨_,by first|rfl|(simp [errW_none,errW_some] <;> rfl)|(simp [*,errW_none,errW_some] <;> rfl),by (with_reducible repeat (first|apply Kd.R_alloc|apply Kd.R_drewN|apply Kd.R_drew));exact Kd.R_mono (Kd.R_far (p:=⟨gb120,0,none⟩) (Kd.R_types HO_3.out BK120.out (by decide)) (fun _ hk => hk.2) (.slice Ao6 x3_1.length co6)) (fun _ hk => trivial),by repeat (first|(with_reducible first|exact HB.out|apply below_alloc|apply pw_below_drewN|apply below_drew1|refine below_set ?_ GE120.out)|exact HB.out)⟩
   rw [if_pos c3] at H
   have c3b0 : decide (0 < x0_1) = true:=decide_eq_true c3
   clear c3
   by_cases c4 : x3_1.length < 17592186044416
   rotate_left
   ·rw [if_neg c4] at H
    exact absurd H (by simp)
   rw [if_pos c4] at H
   have LMc4:=Aside0.mk c4
   clear c4
   obtain ⟨y121,hy121⟩ : ∃ y_ : List Int,y_ = (x3_1 ++ [Int.tmod x0_1 10]):=⟨_,rfl⟩
   replace H : (bursarref03_long.l0 k1 (wrap64 (Int.tdiv x0_1 10)) y121) = some r:=by first|(rw [hy121];with_reducible exact H)|(have H2_:=(Option.bind_some _ _).symm.trans H;rw [hy121];with_reducible exact H2_)|(have H2_:=(Option.bind_some _ _).symm.trans H;with_reducible exact H2_)|with_reducible exact H|(rw [hy121];exact H)|exact H
   have Ny121:=Aside0.mk hy121
   clear hy121
   have H':=Aside0.mk H
   clear H
   go_wp2_with (first|((with_reducible refine gate_builtin (b:=.append) (xs:=#[.tmp 6,.tmp 9]) rfl ?_);at_builtin;refine Kd.R_append (Kd.int .i64) (w0:=w) w.heap.size rfl (.tmp 6) (.tmp 9) 80 3 (.int .i64 0) 8 rfl Tryz.underlying80 info3 rfl (by decide) (by omega) u3 x3_1 (Int.tmod x0_1 10) [.int .i64 (Int.tmod x0_1 10)] (fun _ => True) (fun _ => False) rfl rfl ?aP (fun _ hk => hk.elim) ?aF ?aO ?aB ?aS ?aL ?_;(case aP => exact rfl);(case aB => exact (by repeat (first|(with_reducible first|exact HB.out|apply below_alloc|apply pw_below_drewN|apply below_drew1|refine below_set ?_ GE120.out)|exact HB.out)));(case aF => exact (fun _ _ => trivial));(case aO => exact (by (with_reducible repeat (first|apply Kd.R_alloc|apply Kd.R_drewN|apply Kd.R_drew));exact HO_3.out));(case aS => exact (below_size (by repeat (first|(with_reducible first|exact HB.out|apply below_alloc|apply pw_below_drewN|apply below_drew1|refine below_set ?_ GE120.out)|exact HB.out))));(case aL => have:=LMc4.out;omega);intro v122 w5 ho hb hg hat;rw [← Ny121.out] at ho;have n0_:=Aside0.mk (blk_grown (g:=gb120) (o:=.cells #[.slice none 0 0] 85 (0,0)) (by (with_reducible repeat (first|refine blk_drewN ?_ _|refine blk_drew ?_|refine blk_alloc ?_ _));exact BK120.out) hg (Kd.R_ne HO_3.out BK120.out (by decide)));have n1_:=Aside0.mk (hb);have n2_:=Aside0.mk (ho);clear BK120;clear HB;clear HO_3;have BK120:=n0_;have HB:=n1_;have HO123:=n2_;clear n0_ n1_ n2_;clear ho hb hg hat))
   go_roundg k1
   case measure => have:=HK1.out;omega
   case rel => exact ⟨(wrap64 (Int.tdiv x0_1 10)),(y121),(by first|rfl|(simp;done)|(simp [*];done)|(simp;rw [Bool.eq_iff_iff];simp;done)|(rw [Bool.eq_iff_iff];simp;done)),H',⟨by have:=HK1.out;omega⟩,⟨by (with_reducible repeat (first|apply Kd.R_alloc|apply Kd.R_drewN|apply Kd.R_drew));exact HO123.out⟩,⟨by (with_reducible repeat (first|refine blk_drewN ?_ _|refine blk_drew ?_|refine blk_alloc ?_ _));exact BK120.out⟩,⟨by repeat (first|(with_reducible first|exact HB.out|apply below_alloc|apply pw_below_drewN|apply below_drew1|refine below_set ?_ GE120.out)|exact HB.out)⟩⟩
end Go.Proofs.YtejgbdclhlolkaaGreatDoor.Q
namespace Go.Proofs.YtejgbdclhlolkaaGreatDoor.Q
open Go.RowKit Go.Proofs.YtejgbdclhlolkaaGreatDoorW.PrintWords Go.Proofs.YtejgbdclhlolkaaGreatDoorW.PrintLast Go.Proofs.YtejgbdclhlolkaaGreatDoorW.PrintMore
attribute [local go_sem] max2_int min2_int max_two min_two max_three min_three max_four min_four   -- for this text's walks alone
set_option linter.unusedVariables false
set_option linter.unusedSimpArgs false
def bursarref03_cut.l0 : Nat → List Int → Int → Option (List Int)
|0,_,_ => none
|k + 1,x0,x3 => if x3 > 0 then (if 0 ≤ (wrap64 (x3 - 1)) then (if (wrap64 (x3 - 1)) < (x0.length : Int) then (if (rd x0 (wrap64 (x3 - 1))) = 0 then (bursarref03_cut.l0 k x0 (wrap64 (x3 - 1))) else (if 0 ≤ x3 then (if x3 ≤ (x0.length : Int) then (some (x0.take (x3 : Int).toNat)) else (none)) else (none))) else (none)) else (none)) else (if 0 ≤ x3 then (if x3 ≤ (x0.length : Int) then (some (x0.take (x3 : Int).toNat)) else (none)) else (none))
def bursarref03_cut.f (k : Nat) (l0 : List Int) : Option (List Int) := bursarref03_cut.l0 k l0 (l0.length : Int)
theorem bursarref03_cut.mono_l : ∀ k, (∀ y0 y1, LeO (bursarref03_cut.l0 k y0 y1) (bursarref03_cut.l0 (k + 1) y0 y1))
|0 => fun _ _ r h => by simp [bursarref03_cut.l0] at h
|k + 1 => by
  have ih0:=bursarref03_cut.mono_l k
  ·intro y0 y1
   unfold bursarref03_cut.l0
   repeat' first
  |(with_reducible exact ih0 _ _)
  |(with_reducible exact LeO.refl _)
  |(with_reducible exact LeO.none _)
  |(with_reducible refine LeO.ite ?_ ?_)
  |(with_reducible refine LeO.bind ?_ (fun _ => ?_))
  |exact ih0 _ _
  |exact LeO.none _
  |refine LeO.ite ?_ ?_
  |refine LeO.bind ?_ (fun _ => ?_)
theorem bursarref03_cut.mono : ∀ a0 k, LeO (bursarref03_cut.f k a0) (bursarref03_cut.f (k + 1) a0) := by
 intro a0 k
 have ih0:=bursarref03_cut.mono_l k
 unfold bursarref03_cut.f
 repeat' first
  |(with_reducible exact ih0 _ _)
  |(with_reducible exact LeO.refl _)
  |(with_reducible exact LeO.none _)
  |(with_reducible refine LeO.ite ?_ ?_)
  |(with_reducible refine LeO.bind ?_ (fun _ => ?_))
  |exact ih0 _ _
  |exact LeO.none _
  |refine LeO.ite ?_ ?_
  |refine LeO.bind ?_ (fun _ => ?_)
set_option maxHeartbeats 8000000 in
set_option maxRecDepth 100000 in
theorem bursarref03_cut.calls (k : Nat) (P0_ : Nat → Prop) (A0 : Option Addr) (c0 : Nat) (l0 : List Int) (r : List Int) (w : World) (hs0 : Kd.V (Kd.int .i64) 3 w w.heap.size (fun k_ => P0_ k_) (.slice A0 l0.length c0) l0) (h : bursarref03_cut.f k l0 = some r) :
  Calls Tryz.prog 84 #[.slice A0 l0.length c0] w fun e w' => ∃ v0_ : Value,e = .returned (.agg #[v0_]) ∧ Kd.V (Kd.int .i64) 3 w' w.heap.size (fun k_ => (P0_ k_ ∨ w.heap.size ≤ k_)) v0_ r ∧ Below w.heap.size w w':=by
 have hu85:=Tryz.underlying85
 have HO0:=Aside0.mk (show Kd.V (Kd.int .i64) 3 w w.heap.size (fun k_ => (P0_ k_ ∨ w.heap.size ≤ k_)) (.slice A0 l0.length c0) l0 from Kd.V_mono hs0 (fun k_ hk => .inl hk))
 have HB:=Aside0.mk (Below.refl w.heap.size w)
 have H : (bursarref03_cut.l0 k l0 (l0.length : Int)) = some r:=h
 clear h
 have H':=Aside0.mk H
 clear H
 go_enter Tryz.func84,Tryz.ntmps84
 go_wp2_with (first|((with_reducible refine gate_dst (N:=2) rfl ?_);refine box_event ?hg (N:=2) ?hd (cs:=#[.slice none 0 0]) (t:=85) ?hr ?_;(case hd => rfl);(case hg => rfl);(case hr => first|(go_simp;done)|(go_simp;rfl));intro gb124 hg w2 hbox hb;have n0_:=Aside0.mk (Kd.V_below (Kd.V_elderB (by (with_reducible repeat (first|apply Kd.V_alloc|apply Kd.V_drewN|apply Kd.V_drew));exact HO0.out) gb124 (Nat.le_of_eq hg.symm)) hb);have n1_:=Aside0.mk (below_step (by repeat (first|(with_reducible first|exact HB.out|apply below_alloc|apply pw_below_drewN|apply below_drew1)|exact HB.out)) hb);have n2_:=Aside0.mk (hbox);have n3_:=Aside0.mk ((by rw [hg];exact (below_size (by repeat (first|(with_reducible first|exact HB.out|apply below_alloc|apply pw_below_drewN|apply below_drew1)|exact HB.out))) : w.heap.size ≤ gb124));have n4_:=Aside0.mk ((by rw [hg];exact (below_size (by repeat (first|(with_reducible first|exact HB.out|apply below_alloc|apply pw_below_drewN|apply below_drew1)|exact HB.out))) : w.heap.size ≤ gb124));clear HO0;clear HB;have HO0:=n0_;have HB:=n1_;have BK124:=n2_;have GW124:=n3_;have GE124:=n4_;clear n0_ n1_ n2_ n3_ n4_;clear hb hbox hg))
 go_loopg [3] k (fun kq v3 w' => ∃ (x3_1 : Int),v3 = .int .i64 x3_1 ∧ Aside0 (bursarref03_cut.l0 kq l0 x3_1 = some r) ∧ Aside0 (kq ≤ k) ∧ Aside0 (Kd.V (Kd.int .i64) 3 w' w.heap.size (fun k_ => (P0_ k_ ∨ w.heap.size ≤ k_) ∧ k_ ≠ gb124) (.slice A0 l0.length c0) l0) ∧ Aside0 (w'.heap[gb124]? = some (.cells #[(.slice none 0 0)] 85 (0,0))) ∧ Aside0 (Below w.heap.size w w'))
 case atStart => exact ⟨((l0.length : Int)),(by first|rfl|(simp;done)|(simp [*];done)|(simp;rw [Bool.eq_iff_iff];simp;done)|(rw [Bool.eq_iff_iff];simp;done)),H',⟨Nat.le_refl _⟩,⟨by (with_reducible repeat (first|apply Kd.V_alloc|apply Kd.V_drewN|apply Kd.V_drew));exact HO0.out⟩,⟨by (with_reducible repeat (first|refine blk_drewN ?_ _|refine blk_drew ?_|refine blk_alloc ?_ _));exact BK124.out⟩,⟨by repeat (first|(with_reducible first|exact HB.out|apply below_alloc|apply pw_below_drewN|apply below_drew1|refine below_set ?_ GE124.out)|exact HB.out)⟩⟩
 case round =>
  clear H';(try clear p2)
  obtain ⟨x3_1,rfl,HA,HK1,HO_0,BK124,HB⟩:=hrel
  cases gk with
 |zero => exact absurd HA.out (by simp [bursarref03_cut.l0])
 |succ k1 =>
   have H:=HA.out
   clear HA
   simp only [bursarref03_cut.l0] at H
   by_cases c3 : x3_1 > 0
   rotate_left
   ·rw [if_neg c3] at H
    have c3b0 : decide (0 < x3_1) = false:=decide_eq_false c3
    clear c3
    by_cases c12 : 0 ≤ x3_1
    rotate_left
    ·rw [if_neg c12] at H
     exact absurd H (by simp)
    rw [if_pos c12] at H
    have c12b0:=eq_true c12
    have c12b1 : decide (0 ≤ x3_1) = true:=decide_eq_true c12
    clear c12
    by_cases c13 : x3_1 ≤ (l0.length : Int)
    rotate_left
    ·rw [if_neg c13] at H
     exact absurd H (by simp)
    rw [if_pos c13] at H
    have c13b0:=eq_true c13
    have c13b1 : decide (x3_1 ≤ (l0.length : Int)) = true:=decide_eq_true c13
    clear c13
    obtain ⟨y131,hy131⟩ : ∃ y_ : List Int,y_ = (l0.take (x3_1 : Int).toNat):=⟨_,rfl⟩
    replace H : (some y131) = some r:=by first|(rw [hy131];with_reducible exact H)|(have H2_:=(Option.bind_some _ _).symm.trans H;rw [hy131];with_reducible exact H2_)|(have H2_:=(Option.bind_some _ _).symm.trans H;with_reducible exact H2_)|with_reducible exact H|(rw [hy131];exact H)|exact H
    have Ny131:=Aside0.mk hy131
    clear hy131
    obtain rfl:=Option.some.inj H
    have q14 : (x3_1 : Int) ≤ ((l0.length : Int) : Int):=of_decide_eq_true (by first|(with_reducible assumption)|assumption)
    obtain ⟨i014,hi014,_,hsz14,_⟩:=info_parts info3
    have hroom14 : l0.length ≤ c0:=(Kd.V_reads' HO_0.out).2.1
    have hC14 : Kd.F (Kd.int .i64) _ _ A0 l0.length l0:=(Kd.V_at (base:=w.heap.size) HO_0.out).2.2
    have hcut14:=cut_to (P:=Tryz.prog) 80 3 .i64 Tryz.underlying80 hi014 A0 l0.length c0 x3_1 (of_decide_eq_true (by first|(with_reducible assumption)|assumption)) q14 hroom14
    have hr14:=Kd.F_take (m:=(x3_1 : Int).toNat) hC14 (by omega)
    have hy14 : y131.length = (x3_1 : Int).toNat:=(by rw [Ny131.out,List.length_take];omega)
    rw [← Ny131.out] at hr14
    rw [← hy14] at hcut14
    have HO135:=Aside0.mk (show Kd.V (Kd.int .i64) 3 _ w.heap.size _ (.slice A0 y131.length c0) y131 from Kd.V_mk (by omega) hr14)
    have HC135:=Aside0.mk (show y131.length ≤ c0 from by omega)
    clear hr14 hC14 hroom14 hi014 hsz14
    have KY14:=Aside0.mk hy14
    clear hy14
    replace q14:=eq_true q14
    have hcz15_0 : wr.cell? ⟨gb124,0,none⟩ = some (.slice none 0 0):=(blk_cell BK124.out 0).trans rfl
    have hfz15_0:=blk_frozen BK124.out 0
    go_wp2
    refine bodyPost_ret (results_cell_row rfl _ _ gb124 85 #[.slice A0 y131.length c0] (0,0) _ rfl (by (with_reducible repeat (first|refine blk_drewN ?_ _|refine blk_drew ?_|refine blk_alloc ?_ _));refine blk_put (cs:=#[.slice none 0 0]) ?_ 0 _ rfl;(with_reducible repeat (first|refine blk_drewN ?_ _|refine blk_drew ?_|refine blk_alloc ?_ _));exact BK124.out) Tryz.underlying85 rfl (by kernel_rfl)) rfl ?_
    exact ⟨_,by first|rfl|(simp [errW_none,errW_some] <;> rfl)|(simp [*,errW_none,errW_some] <;> rfl),by (with_reducible repeat (first|apply Kd.V_alloc|apply Kd.V_drewN|apply Kd.V_drew));exact Kd.V_mono (Kd.V_far (p:=⟨gb124,0,none⟩) (Kd.V_mono HO135.out (fun k_ hk => (⟨hk,hk.2⟩ : _ ∧ k_ ≠ gb124))) (fun _ hk => hk.2) (.slice A0 y131.length c0)) (fun _ hk => hk.1.1),by repeat (first|(with_reducible first|exact HB.out|apply below_alloc|apply pw_below_drewN|apply below_drew1|refine below_set ?_ GE124.out)|exact HB.out)⟩
   rw [if_pos c3] at H
   have c3b0 : decide (0 < x3_1) = true:=decide_eq_true c3
   clear c3
   obtain ⟨ji4,hji4⟩ : ∃ j_ : Int,(wrap64 (x3_1 - 1)) = j_:=⟨_,rfl⟩
   replace H : (if 0 ≤ (ji4) then (if (ji4) < (l0.length : Int) then (if (rd l0 (ji4)) = 0 then (bursarref03_cut.l0 k1 l0 ji4) else (if 0 ≤ x3_1 then (if x3_1 ≤ (l0.length : Int) then (some (l0.take (x3_1 : Int).toNat)) else (none)) else (none))) else (none)) else (none)) = some r:=by first|(rw [hji4] at H;exact H)|(simp only [hji4] at H ⊢;exact H)
   have hji4w : (IntKind.i64.wrap (x3_1 - 1)) = ji4:=(i64_w _).trans hji4
   by_cases c5 : 0 ≤ (ji4)
   rotate_left
   ·rw [if_neg c5] at H
    exact absurd H (by simp)
   rw [if_pos c5] at H
   have c5b0 : decide (0 ≤ (ji4)) = true:=decide_eq_true c5
   clear c5
   by_cases c6 : (ji4) < (l0.length : Int)
   rotate_left
   ·rw [if_neg c6] at H
    exact absurd H (by simp)
   rw [if_pos c6] at H
   have c6b0 : decide ((ji4) < (l0.length : Int)) = true:=decide_eq_true c6
   clear c6
   by_cases c7 : (rd l0 (ji4)) = 0
   ·rw [if_pos c7] at H
    have c7b0 : ((rd l0 (ji4)) == 0) = true:=beq_iff_eq.mpr c7
    have c7b1 : ((rd l0 (ji4)) != 0) = false:=bne_eq_false_iff_eq.mpr c7
    clear c7
    have H':=Aside0.mk H
    clear H
    have p125 : 0 ≤ ((ji4) : Int):=of_decide_eq_true (by first|(with_reducible assumption)|assumption)
    have q125 : (ji4) < (l0.length : Int):=of_decide_eq_true (by first|(with_reducible assumption)|assumption)
    obtain ⟨ad125,e125,hx125_0⟩:=Kd.at_int (Kd.V_reads' HO_0.out).2.2 (ji4) p125 q125
    cases e125
    replace p125:=eq_true p125
    replace q125:=eq_true q125
    go_wp2
    go_roundg k1
    case measure => have:=HK1.out;omega
    case rel => exact ⟨(ji4),(by first|rfl|(simp;done)|(simp only [← hji4] <;> (first|rfl|simp))|(simp [*];done)),H',⟨by have:=HK1.out;omega⟩,⟨by (with_reducible repeat (first|apply Kd.V_alloc|apply Kd.V_drewN|apply Kd.V_drew));exact HO_0.out⟩,⟨by (with_reducible repeat (first|refine blk_drewN ?_ _|refine blk_drew ?_|refine blk_alloc ?_ _));exact BK124.out⟩,⟨by repeat (first|(with_reducible first|exact HB.out|apply below_alloc|apply pw_below_drewN|apply below_drew1|refine below_set ?_ GE124.out)|exact HB.out)⟩⟩
   rw [if_neg c7] at H
   have c7b0 : ((rd l0 (ji4)) == 0) = false:=beq_eq_false_iff_ne.mpr c7
   have c7b1 : ((rd l0 (ji4)) != 0) = true:=bne_iff_ne.mpr c7
   by_cases c8 : 0 ≤ x3_1
   rotate_left
   ·rw [if_neg c8] at H
    exact absurd H (by simp)
   rw [if_pos c8] at H
   have c8b0:=eq_true c8
   have c8b1 : decide (0 ≤ x3_1) = true:=decide_eq_true c8
   clear c8
   by_cases c9 : x3_1 ≤ (l0.length : Int)
   rotate_left
   ·rw [if_neg c9] at H
    exact absurd H (by simp)
   rw [if_pos c9] at H
   have c9b0:=eq_true c9
   have c9b1 : decide (x3_1 ≤ (l0.length : Int)) = true:=decide_eq_true c9
   clear c9
   obtain ⟨y126,hy126⟩ : ∃ y_ : List Int,y_ = (l0.take (x3_1 : Int).toNat):=⟨_,rfl⟩
   replace H : (some y126) = some r:=by first|(rw [hy126];with_reducible exact H)|(have H2_:=(Option.bind_some _ _).symm.trans H;rw [hy126];with_reducible exact H2_)|(have H2_:=(Option.bind_some _ _).symm.trans H;with_reducible exact H2_)|with_reducible exact H|(rw [hy126];exact H)|exact H
   have Ny126:=Aside0.mk hy126
   clear hy126
   obtain rfl:=Option.some.inj H
   have p125 : 0 ≤ ((ji4) : Int):=of_decide_eq_true (by first|(with_reducible assumption)|assumption)
   have q125 : (ji4) < (l0.length : Int):=of_decide_eq_true (by first|(with_reducible assumption)|assumption)
   obtain ⟨ad125,e125,hx125_0⟩:=Kd.at_int (Kd.V_reads' HO_0.out).2.2 (ji4) p125 q125
   cases e125
   replace p125:=eq_true p125
   replace q125:=eq_true q125
   have q10 : (x3_1 : Int) ≤ ((l0.length : Int) : Int):=of_decide_eq_true (by first|(with_reducible assumption)|assumption)
   obtain ⟨i010,hi010,_,hsz10,_⟩:=info_parts info3
   have hroom10 : l0.length ≤ c0:=(Kd.V_reads' HO_0.out).2.1
   have hC10 : Kd.F (Kd.int .i64) _ _ (some ad125) l0.length l0:=(Kd.V_at (base:=w.heap.size) HO_0.out).2.2
   have hcut10:=cut_to (P:=Tryz.prog) 80 3 .i64 Tryz.underlying80 hi010 (some ad125) l0.length c0 x3_1 (of_decide_eq_true (by first|(with_reducible assumption)|assumption)) q10 hroom10
   have hr10:=Kd.F_take (m:=(x3_1 : Int).toNat) hC10 (by omega)
   have hy10 : y126.length = (x3_1 : Int).toNat:=(by rw [Ny126.out,List.length_take];omega)
   rw [← Ny126.out] at hr10
   rw [← hy10] at hcut10
   have HO130:=Aside0.mk (show Kd.V (Kd.int .i64) 3 _ w.heap.size _ (.slice (some ad125) y126.length c0) y126 from Kd.V_mk (by omega) hr10)
   have HC130:=Aside0.mk (show y126.length ≤ c0 from by omega)
   clear hr10 hC10 hroom10 hi010 hsz10
   have KY10:=Aside0.mk hy10
   clear hy10
   replace q10:=eq_true q10
   have hcz11_0 : wr.cell? ⟨gb124,0,none⟩ = some (.slice none 0 0):=(blk_cell BK124.out 0).trans rfl
   have hfz11_0:=blk_frozen BK124.out 0
   go_wp2
   refine bodyPost_ret (results_cell_row rfl _ _ gb124 85 #[.slice (some ad125) y126.length c0] (0,0) _ rfl (by (with_reducible repeat (first|refine blk_drewN ?_ _|refine blk_drew ?_|refine blk_alloc ?_ _));refine blk_put (cs:=#[.slice none 0 0]) ?_ 0 _ rfl;(with_reducible repeat (first|refine blk_drewN ?_ _|refine blk_drew ?_|refine blk_alloc ?_ _));exact BK124.out) Tryz.underlying85 rfl (by kernel_rfl)) rfl ?_
   exact ⟨_,by first|rfl|(simp [errW_none,errW_some] <;> rfl)|(simp only [← hji4];first|rfl|(simp [errW_none,errW_some] <;> rfl))|(simp [*,errW_none,errW_some] <;> rfl),by (with_reducible repeat (first|apply Kd.V_alloc|apply Kd.V_drewN|apply Kd.V_drew));exact Kd.V_mono (Kd.V_far (p:=⟨gb124,0,none⟩) (Kd.V_mono HO130.out (fun k_ hk => (⟨hk,hk.2⟩ : _ ∧ k_ ≠ gb124))) (fun _ hk => hk.2) (.slice (some ad125) y126.length c0)) (fun _ hk => hk.1.1),by repeat (first|(with_reducible first|exact HB.out|apply below_alloc|apply pw_below_drewN|apply below_drew1|refine below_set ?_ GE124.out)|exact HB.out)⟩
end Go.Proofs.YtejgbdclhlolkaaGreatDoor.Q
namespace Go.Proofs.YtejgbdclhlolkaaGreatDoor.Q
open Go.RowKit Go.Proofs.YtejgbdclhlolkaaGreatDoorW.PrintWords Go.Proofs.YtejgbdclhlolkaaGreatDoorW.PrintLast Go.Proofs.YtejgbdclhlolkaaGreatDoorW.PrintMore
attribute [local go_sem] max2_int min2_int max_two min_two max_three min_three max_four min_four   -- for this text's walks alone
set_option linter.unusedVariables false
set_option linter.unusedSimpArgs false
def bursarref03_Long_at.f (l0_0 : List Int) (a1 : Int) : Option (Int) := if a1 < (l0_0.length : Int) then (if 0 ≤ a1 then (some (rd l0_0 a1)) else (none)) else (some 0)
set_option maxHeartbeats 8000000 in
set_option maxRecDepth 100000 in
theorem bursarref03_Long_at.calls (A0_0 : Option Addr) (c0_0 : Nat) (l0_0 : List Int) (a1 : Int) (r : Int) (w : World) (hr0_0 : Kd.C (Kd.int .i64) w A0_0 l0_0.length l0_0) (hc0_0 : l0_0.length ≤ c0_0) (h : bursarref03_Long_at.f l0_0 a1 = some r) :
  Calls Tryz.prog 92 #[.agg #[.slice A0_0 l0_0.length c0_0],.int .i64 a1] w fun e w' => e = .returned (.int .i64 r) ∧ Below w.heap.size w w':=by
 have hu85:=Tryz.underlying85
 have HR0_0:=Aside0.mk hr0_0
 have HC0_0:=Aside0.mk hc0_0
 clear hr0_0 hc0_0
 have HB:=Aside0.mk (Below.refl w.heap.size w)
 have H : (if a1 < (l0_0.length : Int) then (if 0 ≤ a1 then (some (rd l0_0 a1)) else (none)) else (some 0)) = some r:=h
 clear h
 by_cases c3 : a1 < (l0_0.length : Int)
 ·rw [if_pos c3] at H
  have c3b0 : decide (a1 < (l0_0.length : Int)) = true:=decide_eq_true c3
  clear c3
  by_cases c4 : 0 ≤ a1
  ·rw [if_pos c4] at H
   have c4b0 : decide (0 ≤ a1) = true:=decide_eq_true c4
   clear c4
   obtain rfl:=Option.some.inj H
   go_enter Tryz.func92,Tryz.ntmps92
   go_wp2_with (first|((with_reducible refine gate_dst (N:=2) rfl ?_);refine box_event ?hg (N:=2) ?hd (cs:=#[.slice A0_0 l0_0.length c0_0]) (t:=85) ?hr ?_;(case hd => rfl);(case hg => rfl);(case hr => first|(go_simp;done)|(go_simp;rfl));intro gb136 hg w5 hbox hb;have n0_:=Aside0.mk (below_step (by repeat (first|(with_reducible first|exact HB.out|apply below_alloc|apply pw_below_drewN|apply below_drew1)|exact HB.out)) hb);have n1_:=Aside0.mk (hbox);have n2_:=Aside0.mk ((by rw [hg];exact (below_size (by repeat (first|(with_reducible first|exact HB.out|apply below_alloc|apply pw_below_drewN|apply below_drew1)|exact HB.out))) : w.heap.size ≤ gb136));have n3_:=Aside0.mk ((by rw [hg];exact (below_size (by repeat (first|(with_reducible first|exact HB.out|apply below_alloc|apply pw_below_drewN|apply below_drew1)|exact HB.out))) : w.heap.size ≤ gb136));clear HB;have HB:=n0_;have BK136:=n1_;have GW136:=n2_;have GE136:=n3_;clear n0_ n1_ n2_ n3_;clear hb hbox hg;have hcz6_0 : w5.cell? ⟨gb136,0,none⟩ = some (.slice A0_0 l0_0.length c0_0):=(blk_cell BK136.out 0).trans rfl;have hfz6_0:=blk_frozen BK136.out 0;have p137 : 0 ≤ (a1 : Int):=of_decide_eq_true (by first|(with_reducible assumption)|assumption);have q137 : a1 < (l0_0.length : Int):=of_decide_eq_true (by first|(with_reducible assumption)|assumption);obtain ⟨ad137,e137,hx137_0⟩:=Kd.at_int HR0_0.out a1 p137 q137;cases e137;replace hx137_0:=(HB.out.cell (World.block_lt_of_cell? w _ hx137_0)).trans hx137_0;replace p137:=eq_true p137;replace q137:=eq_true q137))
   go_ret
   exact ⟨by first|rfl|(simp [errW_none,errW_some] <;> rfl)|(simp [*,errW_none,errW_some] <;> rfl),by repeat (first|(with_reducible first|exact HB.out|apply below_alloc|apply pw_below_drewN|apply below_drew1|refine below_set ?_ GE136.out)|exact HB.out)⟩
  ·rw [if_neg c4] at H
   exact absurd H (by simp)
 ·rw [if_neg c3] at H
  have c3b0 : decide (a1 < (l0_0.length : Int)) = false:=decide_eq_false c3
  clear c3
  obtain rfl:=Option.some.inj H
  go_enter Tryz.func92,Tryz.ntmps92
  go_wp2_with (first|((with_reducible refine gate_dst (N:=2) rfl ?_);refine box_event ?hg (N:=2) ?hd (cs:=#[.slice A0_0 l0_0.length c0_0]) (t:=85) ?hr ?_;(case hd => rfl);(case hg => rfl);(case hr => first|(go_simp;done)|(go_simp;rfl));intro gb136 hg w7 hbox hb;have n0_:=Aside0.mk (below_step (by repeat (first|(with_reducible first|exact HB.out|apply below_alloc|apply pw_below_drewN|apply below_drew1)|exact HB.out)) hb);have n1_:=Aside0.mk (hbox);have n2_:=Aside0.mk ((by rw [hg];exact (below_size (by repeat (first|(with_reducible first|exact HB.out|apply below_alloc|apply pw_below_drewN|apply below_drew1)|exact HB.out))) : w.heap.size ≤ gb136));have n3_:=Aside0.mk ((by rw [hg];exact (below_size (by repeat (first|(with_reducible first|exact HB.out|apply below_alloc|apply pw_below_drewN|apply below_drew1)|exact HB.out))) : w.heap.size ≤ gb136));clear HB;have HB:=n0_;have BK136:=n1_;have GW136:=n2_;have GE136:=n3_;clear n0_ n1_ n2_ n3_;clear hb hbox hg;have hcz8_0 : w7.cell? ⟨gb136,0,none⟩ = some (.slice A0_0 l0_0.length c0_0):=(blk_cell BK136.out 0).trans rfl;have hfz8_0:=blk_frozen BK136.out 0))
  go_ret
  exact ⟨by first|rfl|(simp [errW_none,errW_some] <;> rfl)|(simp [*,errW_none,errW_some] <;> rfl),by repeat (first|(with_reducible first|exact HB.out|apply below_alloc|apply pw_below_drewN|apply below_drew1|refine below_set ?_ GE136.out)|exact HB.out)⟩
end Go.Proofs.YtejgbdclhlolkaaGreatDoor.Q
namespace Go.Proofs.YtejgbdclhlolkaaGreatDoor.Q
open Go.RowKit Go.Proofs.YtejgbdclhlolkaaGreatDoorW.PrintWords Go.Proofs.YtejgbdclhlolkaaGreatDoorW.PrintLast Go.Proofs.YtejgbdclhlolkaaGreatDoorW.PrintMore
attribute [local go_sem] max2_int min2_int max_two min_two max_three min_three max_four min_four   -- for this text's walks alone
set_option linter.unusedVariables false
set_option linter.unusedSimpArgs false
mutual
def bursarref03_Long_plus.l0 : Nat → List Int → Int → Int → List Int → List Int → Option (List Int)
|0,_,_,_,_,_ => none
|k + 1,x5,x6,x7,x241000,x242000 => if x7 < (x241000.length : Int) then (bursarref03_Long_plus.j1 k x5 x6 x7 true x241000 x242000) else (if x7 < (x242000.length : Int) then (bursarref03_Long_plus.j1 k x5 x6 x7 true x241000 x242000) else (bursarref03_Long_plus.j1 k x5 x6 x7 (decide (x6 > 0)) x241000 x242000))
def bursarref03_Long_plus.j1 : Nat → List Int → Int → Int → Bool → List Int → List Int → Option (List Int)
|0,_,_,_,_,_,_ => none
|k + 1,x5,x6,x7,x24,x241000,x242000 => if x24 = true then ((bursarref03_Long_at.f x241000 x7).bind fun t243 => ((bursarref03_Long_at.f x242000 x7).bind fun t244 => (if x5.length < 17592186044416 then (bursarref03_Long_plus.l0 k (x5 ++ [Int.tmod (wrap64 ((wrap64 (t243 + t244)) + x6)) 10]) (wrap64 (Int.tdiv (wrap64 ((wrap64 (t243 + t244)) + x6)) 10)) (wrap64 (x7 + 1)) x241000 x242000) else (none)))) else ((bursarref03_cut.f k x5).bind fun t248 => (some t248))
end
def bursarref03_Long_plus.f (k : Nat) (l0_0 : List Int) (l1_0 : List Int) : Option (List Int) := bursarref03_Long_plus.l0 k ([] : List Int) 0 0 l0_0 l1_0
theorem bursarref03_Long_plus.mono_l : ∀ k, (∀ y0 y1 y2 y3 y4, LeO (bursarref03_Long_plus.l0 k y0 y1 y2 y3 y4) (bursarref03_Long_plus.l0 (k + 1) y0 y1 y2 y3 y4)) ∧ (∀ y0 y1 y2 y3 y4 y5, LeO (bursarref03_Long_plus.j1 k y0 y1 y2 y3 y4 y5) (bursarref03_Long_plus.j1 (k + 1) y0 y1 y2 y3 y4 y5))
|0 => ⟨fun _ _ _ _ _ r h => by simp [bursarref03_Long_plus.l0] at h,fun _ _ _ _ _ _ r h => by simp [bursarref03_Long_plus.j1] at h⟩
|k + 1 => by
  obtain ⟨ih0,ih1⟩:=bursarref03_Long_plus.mono_l k
  refine ⟨?_,?_⟩
  ·intro y0 y1 y2 y3 y4
   unfold bursarref03_Long_plus.l0
   repeat' first
  |(with_reducible exact ih0 _ _ _ _ _)
  |(with_reducible exact ih1 _ _ _ _ _ _)
  |(with_reducible exact bursarref03_cut.mono _ _)
  |(with_reducible exact LeO.refl _)
  |(with_reducible exact LeO.none _)
  |(with_reducible refine LeO.ite ?_ ?_)
  |(with_reducible refine LeO.bind ?_ (fun _ => ?_))
  |exact ih0 _ _ _ _ _
  |exact ih1 _ _ _ _ _ _
  |exact bursarref03_cut.mono _ _
  |exact LeO.none _
  |refine LeO.ite ?_ ?_
  |refine LeO.bind ?_ (fun _ => ?_)
  ·intro y0 y1 y2 y3 y4 y5
   unfold bursarref03_Long_plus.j1
   repeat' first
  |(with_reducible exact ih0 _ _ _ _ _)
  |(with_reducible exact ih1 _ _ _ _ _ _)
  |(with_reducible exact bursarref03_cut.mono _ _)
  |(with_reducible exact LeO.refl _)
  |(with_reducible exact LeO.none _)
  |(with_reducible refine LeO.ite ?_ ?_)
  |(with_reducible refine LeO.bind ?_ (fun _ => ?_))
  |exact ih0 _ _ _ _ _
  |exact ih1 _ _ _ _ _ _
  |exact bursarref03_cut.mono _ _
  |exact LeO.none _
  |refine LeO.ite ?_ ?_
  |refine LeO.bind ?_ (fun _ => ?_)
theorem bursarref03_Long_plus.mono : ∀ a0 a1 k, LeO (bursarref03_Long_plus.f k a0 a1) (bursarref03_Long_plus.f (k + 1) a0 a1) := by
 intro a0 a1 k
 obtain ⟨ih0,ih1⟩:=bursarref03_Long_plus.mono_l k
 unfold bursarref03_Long_plus.f
 repeat' first
  |(with_reducible exact ih0 _ _ _ _ _)
  |(with_reducible exact ih1 _ _ _ _ _ _)
  |(with_reducible exact bursarref03_cut.mono _ _)
  |(with_reducible exact LeO.refl _)
  |(with_reducible exact LeO.none _)
  |(with_reducible refine LeO.ite ?_ ?_)
  |(with_reducible refine LeO.bind ?_ (fun _ => ?_))
  |exact ih0 _ _ _ _ _
  |exact ih1 _ _ _ _ _ _
  |exact bursarref03_cut.mono _ _
  |exact LeO.none _
  |refine LeO.ite ?_ ?_
  |refine LeO.bind ?_ (fun _ => ?_)
def bursarref03_Long_plus.T6 : Bool × List (List Nat × List Nat) := (true, [([], []), ([], []), ([0, 1], [0, 1]), ([], []), ([], []), ([3, 4, 2], [3, 4]), ([2, 5], [2, 5]), ([], []), ([6, 7], [6, 7]), ([8, 5, 0, 1, 2, 3, 4, 5, 6, 7, 8], [8])])
def bursarref03_Long_plus.B6 : List Nat := [0, 0, 3, 0, 0, 31, 63, 0, 255, 511]
theorem bursarref03_Long_plus.tab6 : rtab .any (opsOf Tryz.f68 6) = bursarref03_Long_plus.T6 := by kernel_rfl
theorem bursarref03_Long_plus.bits6 : waitsOk bursarref03_Long_plus.T6.2 bursarref03_Long_plus.B6 = true := by kernel_rfl
set_option maxHeartbeats 8000000 in
set_option maxRecDepth 100000 in
theorem bursarref03_Long_plus.calls (k : Nat) (A0_0 : Option Addr) (c0_0 : Nat) (l0_0 : List Int) (A1_0 : Option Addr) (c1_0 : Nat) (l1_0 : List Int) (r : List Int) (w : World) (hr0_0 : Kd.C (Kd.int .i64) w A0_0 l0_0.length l0_0) (hc0_0 : l0_0.length ≤ c0_0) (hr1_0 : Kd.C (Kd.int .i64) w A1_0 l1_0.length l1_0) (hc1_0 : l1_0.length ≤ c1_0) (h : bursarref03_Long_plus.f k l0_0 l1_0 = some r) :
  Calls Tryz.prog 68 #[.agg #[.slice A0_0 l0_0.length c0_0],.agg #[.slice A1_0 l1_0.length c1_0]] w fun e w' => ∃ v0_ : Value,e = .returned (.agg #[v0_]) ∧ Kd.V (Kd.int .i64) 3 w' w.heap.size (fun k_ => (w.heap.size ≤ k_)) v0_ r ∧ Below w.heap.size w w':=by
 have hu85:=Tryz.underlying85
 have HR0_0:=Aside0.mk hr0_0
 have HC0_0:=Aside0.mk hc0_0
 clear hr0_0 hc0_0
 have HR1_0:=Aside0.mk hr1_0
 have HC1_0:=Aside0.mk hc1_0
 clear hr1_0 hc1_0
 have HB:=Aside0.mk (Below.refl w.heap.size w)
 have H : (bursarref03_Long_plus.l0 k ([] : List Int) 0 0 l0_0 l1_0) = some r:=h
 clear h
 have H':=Aside0.mk H
 clear H
 go_enter Tryz.func68,Tryz.ntmps68
 go_wp2_with (first|((with_reducible refine gate_dst (N:=2) rfl ?_);(try (refine gate_guard (by rfl) ?_;dsimp only));refine box_event ?hg (N:=2) ?hd (cs:=#[.slice A0_0 l0_0.length c0_0]) (t:=85) ?hr ?_;(case hd => rfl);(case hg => rfl);(case hr => first|(go_simp;done)|(go_simp;rfl));intro gb240 hg w3 hbox hb;have n0_:=Aside0.mk (below_step (by repeat (first|(with_reducible first|exact HB.out|apply below_alloc|apply pw_below_drewN|apply below_drew1)|exact HB.out)) hb);have n1_:=Aside0.mk (hbox);have n2_:=Aside0.mk ((by rw [hg];exact (below_size (by repeat (first|(with_reducible first|exact HB.out|apply below_alloc|apply pw_below_drewN|apply below_drew1)|exact HB.out))) : w.heap.size ≤ gb240));have n3_:=Aside0.mk ((by rw [hg];exact (below_size (by repeat (first|(with_reducible first|exact HB.out|apply below_alloc|apply pw_below_drewN|apply below_drew1)|exact HB.out))) : w.heap.size ≤ gb240));clear HB;have HB:=n0_;have BK240:=n1_;have GW240:=n2_;have GE240:=n3_;clear n0_ n1_ n2_ n3_;clear hb hbox hg)|((with_reducible refine gate_dst (N:=3) rfl ?_);(try (refine gate_guard (by rfl) ?_;dsimp only));refine box_event ?hg (N:=3) ?hd (cs:=#[.slice A1_0 l1_0.length c1_0]) (t:=85) ?hr ?_;(case hd => rfl);(case hg => rfl);(case hr => first|(go_simp;done)|(go_simp;rfl));intro gb241 hg w4 hbox hb;have n0_:=Aside0.mk (blk_below (g:=gb240) (o:=.cells #[.slice A0_0 l0_0.length c0_0] 85 (0,0)) (by (with_reducible repeat (first|refine blk_drewN ?_ _|refine blk_drew ?_|refine blk_alloc ?_ _));exact BK240.out) hb);have n1_:=Aside0.mk (below_step (by repeat (first|(with_reducible first|exact HB.out|apply below_alloc|apply pw_below_drewN|apply below_drew1|refine below_set ?_ GE240.out)|exact HB.out)) hb);have n2_:=Aside0.mk (hbox);have n3_:=Aside0.mk ((by rw [hg];exact (below_size (by repeat (first|(with_reducible first|exact HB.out|apply below_alloc|apply pw_below_drewN|apply below_drew1|refine below_set ?_ GE240.out)|exact HB.out))) : w.heap.size ≤ gb241));have n4_:=Aside0.mk ((by rw [hg];exact (below_size (by repeat (first|(with_reducible first|exact HB.out|apply below_alloc|apply pw_below_drewN|apply below_drew1|refine below_set ?_ GE240.out)|exact HB.out))) : w.heap.size ≤ gb241));have n5_:=Aside0.mk ((by rw [hg];exact Nat.ne_of_lt (blk_lt (g:=gb240) (o:=.cells #[.slice A0_0 l0_0.length c0_0] 85 (0,0)) (by (with_reducible repeat (first|refine blk_drewN ?_ _|refine blk_drew ?_|refine blk_alloc ?_ _));exact BK240.out)) : gb240 ≠ gb241));have n6_:=Aside0.mk ((by rw [hg];exact Nat.ne_of_gt (blk_lt (g:=gb240) (o:=.cells #[.slice A0_0 l0_0.length c0_0] 85 (0,0)) (by (with_reducible repeat (first|refine blk_drewN ?_ _|refine blk_drew ?_|refine blk_alloc ?_ _));exact BK240.out)) : gb241 ≠ gb240));clear BK240;clear HB;have BK240:=n0_;have HB:=n1_;have BK241:=n2_;have GW241:=n3_;have GE241:=n4_;have NB240_241:=n5_;have NB241_240:=n6_;clear n0_ n1_ n2_ n3_ n4_ n5_ n6_;clear hb hbox hg)|((with_reducible refine gate_dst (N:=4) rfl ?_);(try (refine gate_guard (by rfl) ?_;dsimp only));refine box_event ?hg (N:=4) ?hd (cs:=#[.slice none 0 0]) (t:=85) ?hr ?_;(case hd => rfl);(case hg => rfl);(case hr => first|(go_simp;done)|(go_simp;rfl));intro gb242 hg w5 hbox hb;have n0_:=Aside0.mk (blk_below (g:=gb240) (o:=.cells #[.slice A0_0 l0_0.length c0_0] 85 (0,0)) (by (with_reducible repeat (first|refine blk_drewN ?_ _|refine blk_drew ?_|refine blk_alloc ?_ _));exact BK240.out) hb);have n1_:=Aside0.mk (blk_below (g:=gb241) (o:=.cells #[.slice A1_0 l1_0.length c1_0] 85 (0,0)) (by (with_reducible repeat (first|refine blk_drewN ?_ _|refine blk_drew ?_|refine blk_alloc ?_ _));exact BK241.out) hb);have n2_:=Aside0.mk (below_step (by repeat (first|(with_reducible first|exact HB.out|apply below_alloc|apply pw_below_drewN|apply below_drew1|refine below_set ?_ GE240.out|refine below_set ?_ GE241.out)|exact HB.out)) hb);have n3_:=Aside0.mk (hbox);have n4_:=Aside0.mk ((by rw [hg];exact (below_size (by repeat (first|(with_reducible first|exact HB.out|apply below_alloc|apply pw_below_drewN|apply below_drew1|refine below_set ?_ GE240.out|refine below_set ?_ GE241.out)|exact HB.out))) : w.heap.size ≤ gb242));have n5_:=Aside0.mk ((by rw [hg];exact (below_size (by repeat (first|(with_reducible first|exact HB.out|apply below_alloc|apply pw_below_drewN|apply below_drew1|refine below_set ?_ GE240.out|refine below_set ?_ GE241.out)|exact HB.out))) : w.heap.size ≤ gb242));have n6_:=Aside0.mk ((by rw [hg];exact Nat.ne_of_lt (blk_lt (g:=gb240) (o:=.cells #[.slice A0_0 l0_0.length c0_0] 85 (0,0)) (by (with_reducible repeat (first|refine blk_drewN ?_ _|refine blk_drew ?_|refine blk_alloc ?_ _));exact BK240.out)) : gb240 ≠ gb242));have n7_:=Aside0.mk ((by rw [hg];exact Nat.ne_of_gt (blk_lt (g:=gb240) (o:=.cells #[.slice A0_0 l0_0.length c0_0] 85 (0,0)) (by (with_reducible repeat (first|refine blk_drewN ?_ _|refine blk_drew ?_|refine blk_alloc ?_ _));exact BK240.out)) : gb242 ≠ gb240));have n8_:=Aside0.mk ((by rw [hg];exact Nat.ne_of_lt (blk_lt (g:=gb241) (o:=.cells #[.slice A1_0 l1_0.length c1_0] 85 (0,0)) (by (with_reducible repeat (first|refine blk_drewN ?_ _|refine blk_drew ?_|refine blk_alloc ?_ _));exact BK241.out)) : gb241 ≠ gb242));have n9_:=Aside0.mk ((by rw [hg];exact Nat.ne_of_gt (blk_lt (g:=gb241) (o:=.cells #[.slice A1_0 l1_0.length c1_0] 85 (0,0)) (by (with_reducible repeat (first|refine blk_drewN ?_ _|refine blk_drew ?_|refine blk_alloc ?_ _));exact BK241.out)) : gb242 ≠ gb241));clear BK240;clear BK241;clear HB;have BK240:=n0_;have BK241:=n1_;have HB:=n2_;have BK242:=n3_;have GW242:=n4_;have GE242:=n5_;have NB240_242:=n6_;have NB242_240:=n7_;have NB241_242:=n8_;have NB242_241:=n9_;clear n0_ n1_ n2_ n3_ n4_ n5_ n6_ n7_ n8_ n9_;clear hb hbox hg))
 go_loopg [5,6,7] k (fun kq v5 v6 v7 w' => ∃ (x5_1 : List Int) (x6_1 : Int) (x7_1 : Int),v6 = .int .i64 x6_1 ∧ v7 = .int .i64 x7_1 ∧ Aside0 (bursarref03_Long_plus.l0 kq x5_1 x6_1 x7_1 l0_0 l1_0 = some r) ∧ Aside0 (kq ≤ k) ∧ Aside0 (Kd.R (Kd.int .i64) 3 w' w.heap.size (fun k_ => (w.heap.size ≤ k_)) v5 x5_1) ∧ Aside0 (w'.heap[gb240]? = some (.cells #[(.slice A0_0 l0_0.length c0_0)] 85 (0,0))) ∧ Aside0 (w'.heap[gb241]? = some (.cells #[(.slice A1_0 l1_0.length c1_0)] 85 (0,0))) ∧ Aside0 (w'.heap[gb242]? = some (.cells #[(.slice none 0 0)] 85 (0,0))) ∧ Aside0 (Below w.heap.size w w'))
 case atStart => exact ⟨(([] : List Int)),(0),(0),(by first|rfl|(simp;done)|(simp [*];done)|(simp;rw [Bool.eq_iff_iff];simp;done)|(rw [Bool.eq_iff_iff];simp;done)),(by first|rfl|(simp;done)|(simp [*];done)|(simp;rw [Bool.eq_iff_iff];simp;done)|(rw [Bool.eq_iff_iff];simp;done)),H',⟨Nat.le_refl _⟩,⟨by first|exact Kd.R_nil _ _ _ _ _|exact Kd.N_nil _ _ _ _ _|exact Kd.V_nil _ _ _ _ _|exact Kd.Q_nil _ _ _ _ _|exact Kd.S_nil _ _ _ _ _⟩,⟨by (with_reducible repeat (first|refine blk_drewN ?_ _|refine blk_drew ?_|refine blk_alloc ?_ _));exact BK240.out⟩,⟨by (with_reducible repeat (first|refine blk_drewN ?_ _|refine blk_drew ?_|refine blk_alloc ?_ _));exact BK241.out⟩,⟨by (with_reducible repeat (first|refine blk_drewN ?_ _|refine blk_drew ?_|refine blk_alloc ?_ _));exact BK242.out⟩,⟨by repeat (first|(with_reducible first|exact HB.out|apply below_alloc|apply pw_below_drewN|apply below_drew1|refine below_set ?_ GE240.out|refine below_set ?_ GE241.out|refine below_set ?_ GE242.out)|exact HB.out)⟩⟩
 case round =>
  clear H';(try clear c1);(try clear p2)
  obtain ⟨x5_1,x6_1,x7_1,rfl,rfl,HA,HK1,HO_5,BK240,BK241,BK242,HB⟩:=hrel
  cases gk with
 |zero => exact absurd HA.out (by simp [bursarref03_Long_plus.l0])
 |succ k1 =>
   have H:=HA.out
   clear HA
   simp only [bursarref03_Long_plus.l0] at H
   have HC6:=Aside0.mk H
   clear H
   go_upto_region 4 with (fail)
   go_cut [24] (fun v24 wc => ∃ (kq : Nat) (x24_5 : Bool),v24 = .bool x24_5 ∧ Aside0 (bursarref03_Long_plus.j1 kq x5_1 x6_1 x7_1 x24_5 l0_0 l1_0 = some r) ∧ Aside0 (kq ≤ k1) ∧ Aside0 (Kd.R (Kd.int .i64) 3 wc w.heap.size (fun k_ => (w.heap.size ≤ k_)) u5 x5_1) ∧ Aside0 (wc.heap[gb240]? = some (.cells #[(.slice A0_0 l0_0.length c0_0)] 85 (0,0))) ∧ Aside0 (wc.heap[gb241]? = some (.cells #[(.slice A1_0 l1_0.length c1_0)] 85 (0,0))) ∧ Aside0 (wc.heap[gb242]? = some (.cells #[(.slice none 0 0)] 85 (0,0))) ∧ Aside0 (Below w.heap.size w wc))
   case first =>
    have H:=HC6.out
    clear HC6
    by_cases c7 : x7_1 < (l0_0.length : Int)
    ·rw [if_pos c7] at H
     have c7b0 : decide (x7_1 < (l0_0.length : Int)) = true:=decide_eq_true c7
     clear c7
     (first|rw [c7b0]|(simp only [i64_w,i32_w];rw [c7b0])|skip)
     have H':=Aside0.mk H
     clear H
     have hnb8:=NB240_241.out
     have hnc8:=NB241_240.out
     have hnb9:=NB240_242.out
     have hnc9:=NB242_240.out
     have hcz10_0 : wr.cell? ⟨gb240,0,none⟩ = some (.slice A0_0 l0_0.length c0_0):=(blk_cell BK240.out 0).trans rfl
     have hfz10_0:=blk_frozen BK240.out 0
     go_wp2
     go_meet
     case rel => exact ⟨_,(true),(by first|rfl|(simp;done)|(simp [*];done)|(simp;rw [Bool.eq_iff_iff];simp;done)|(rw [Bool.eq_iff_iff];simp;done)),H',⟨by have:=HK1.out;first|omega|exact Nat.le_refl _⟩,⟨by (with_reducible repeat (first|apply Kd.R_alloc|apply Kd.R_drewN|apply Kd.R_drew));exact HO_5.out⟩,⟨by (with_reducible repeat (first|refine blk_drewN ?_ _|refine blk_drew ?_|refine blk_alloc ?_ _));exact BK240.out⟩,⟨by (with_reducible repeat (first|refine blk_drewN ?_ _|refine blk_drew ?_|refine blk_alloc ?_ _));exact BK241.out⟩,⟨by (with_reducible repeat (first|refine blk_drewN ?_ _|refine blk_drew ?_|refine blk_alloc ?_ _));exact BK242.out⟩,⟨by repeat (first|(with_reducible first|exact HB.out|apply below_alloc|apply pw_below_drewN|apply below_drew1|refine below_set ?_ GE240.out|refine below_set ?_ GE241.out|refine below_set ?_ GE242.out)|exact HB.out)⟩⟩
    rw [if_neg c7] at H
    have c7b0 : decide (x7_1 < (l0_0.length : Int)) = false:=decide_eq_false c7
    clear c7
    (first|rw [c7b0]|(simp only [i64_w,i32_w];rw [c7b0])|skip)
    by_cases c11 : x7_1 < (l1_0.length : Int)
    ·rw [if_pos c11] at H
     have c11b0 : decide (x7_1 < (l1_0.length : Int)) = true:=decide_eq_true c11
     clear c11
     have H':=Aside0.mk H
     clear H
     have hnb12:=NB240_241.out
     have hnc12:=NB241_240.out
     have hnb13:=NB240_242.out
     have hnc13:=NB242_240.out
     have hcz14_0 : wr.cell? ⟨gb240,0,none⟩ = some (.slice A0_0 l0_0.length c0_0):=(blk_cell BK240.out 0).trans rfl
     have hfz14_0:=blk_frozen BK240.out 0
     have hnb15:=NB241_242.out
     have hnc15:=NB242_241.out
     have hcz16_0 : wr.cell? ⟨gb241,0,none⟩ = some (.slice A1_0 l1_0.length c1_0):=(blk_cell BK241.out 0).trans rfl
     have hfz16_0:=blk_frozen BK241.out 0
     go_wp2
     go_meet
     case rel => exact ⟨_,(true),(by first|rfl|(simp;done)|(simp [*];done)|(simp;rw [Bool.eq_iff_iff];simp;done)|(rw [Bool.eq_iff_iff];simp;done)),H',⟨by have:=HK1.out;first|omega|exact Nat.le_refl _⟩,⟨by (with_reducible repeat (first|apply Kd.R_alloc|apply Kd.R_drewN|apply Kd.R_drew));exact HO_5.out⟩,⟨by (with_reducible repeat (first|refine blk_drewN ?_ _|refine blk_drew ?_|refine blk_alloc ?_ _));exact BK240.out⟩,⟨by (with_reducible repeat (first|refine blk_drewN ?_ _|refine blk_drew ?_|refine blk_alloc ?_ _));exact BK241.out⟩,⟨by (with_reducible repeat (first|refine blk_drewN ?_ _|refine blk_drew ?_|refine blk_alloc ?_ _));exact BK242.out⟩,⟨by repeat (first|(with_reducible first|exact HB.out|apply below_alloc|apply pw_below_drewN|apply below_drew1|refine below_set ?_ GE240.out|refine below_set ?_ GE241.out|refine below_set ?_ GE242.out)|exact HB.out)⟩⟩
    rw [if_neg c11] at H
    have c11b0 : decide (x7_1 < (l1_0.length : Int)) = false:=decide_eq_false c11
    clear c11
    have H':=Aside0.mk H
    clear H
    have hnb17:=NB240_241.out
    have hnc17:=NB241_240.out
    have hnb18:=NB240_242.out
    have hnc18:=NB242_240.out
    have hcz19_0 : wr.cell? ⟨gb240,0,none⟩ = some (.slice A0_0 l0_0.length c0_0):=(blk_cell BK240.out 0).trans rfl
    have hfz19_0:=blk_frozen BK240.out 0
    have hnb20:=NB241_242.out
    have hnc20:=NB242_241.out
    have hcz21_0 : wr.cell? ⟨gb241,0,none⟩ = some (.slice A1_0 l1_0.length c1_0):=(blk_cell BK241.out 0).trans rfl
    have hfz21_0:=blk_frozen BK241.out 0
    go_wp2
    go_meet
    case rel => exact ⟨_,(decide (x6_1 > 0)),(by first|rfl|(simp;done)|(simp [*];done)|(simp;rw [Bool.eq_iff_iff];simp;done)|(rw [Bool.eq_iff_iff];simp;done)),H',⟨by have:=HK1.out;first|omega|exact Nat.le_refl _⟩,⟨by (with_reducible repeat (first|apply Kd.R_alloc|apply Kd.R_drewN|apply Kd.R_drew));exact HO_5.out⟩,⟨by (with_reducible repeat (first|refine blk_drewN ?_ _|refine blk_drew ?_|refine blk_alloc ?_ _));exact BK240.out⟩,⟨by (with_reducible repeat (first|refine blk_drewN ?_ _|refine blk_drew ?_|refine blk_alloc ?_ _));exact BK241.out⟩,⟨by (with_reducible repeat (first|refine blk_drewN ?_ _|refine blk_drew ?_|refine blk_alloc ?_ _));exact BK242.out⟩,⟨by repeat (first|(with_reducible first|exact HB.out|apply below_alloc|apply pw_below_drewN|apply below_drew1|refine below_set ?_ GE240.out|refine below_set ?_ GE241.out|refine below_set ?_ GE242.out)|exact HB.out)⟩⟩
   case rest =>
    clear HC6;(try clear c1);(try clear c2);(try clear p2);(try clear c6);(try clear c7);(try clear c7b0);(try clear c8);(try clear c9);(try clear c11);(try clear c11b0);(try clear c12);(try clear c13);(try clear c15);(try clear c17);(try clear c18);(try clear c20);(try clear hcz10_0);(try clear hcz14_0);(try clear hcz16_0);(try clear hcz19_0);(try clear hcz21_0);(try clear hfz10_0);(try clear hfz14_0);(try clear hfz16_0);(try clear hfz19_0);(try clear hfz21_0);(try clear p2)
    obtain ⟨kq,x24_5,rfl,HA,HJ5,HO_5,BK240,BK241,BK242,HB⟩:=hcut
    cases kq with
   |zero => exact absurd HA.out (by simp [bursarref03_Long_plus.j1])
   |succ kj5 =>
     have H:=HA.out
     clear HA
     simp only [bursarref03_Long_plus.j1] at H
     by_cases c22 : x24_5 = true
     rotate_left
     ·replace c22:=Bool.eq_false_iff.mpr c22
      subst c22
      have H1 : ((bursarref03_cut.f kj5 x5_1).bind fun t248 => (some t248)) = some r:=by rw [if_neg (show ¬ (false = true) by decide)] at H;exact H
      clear H;have H:=H1;clear H1
      replace H:=Option.bind_eq_some_iff.mp H
      obtain ⟨t248,A300,H⟩:=H
      replace H : (some t248) = some r:=H
      have A30:=Aside0.mk A300
      clear A300
      obtain rfl:=Option.some.inj H
      obtain ⟨Ao31,co31,eo31⟩:=Kd.R_slice HO_5.out
      subst eo31
      go_wp2_with (first|((with_reducible refine gate_callee (f:=84) rfl ?_);refine goesL_ (some 44) rfl rfl Tryz.func84 (by kernel_rfl) rfl #[.slice Ao31 x5_1.length co31] rfl (by (try simp only [List.map_toArray,List.map_cons,List.map_nil]);first|done|rfl|(simp only [List.length_drop,List.length_take];rfl)) ?_;(with_reducible refine (bursarref03_cut.calls kj5 (fun k_ => some k_ = (.slice Ao31 x5_1.length co31 : Value).ownBlock) _ _ x5_1 t248 _ ?side1 A30.out).mono ?_);(case side1 => exact Kd.R_V (Kd.R_tight rfl (Kd.R_types (Kd.R_types (Kd.R_types (HO_5.out) BK240.out (by decide)) BK241.out (by decide)) BK242.out (by decide))));rintro e w32 ⟨v249,rfl,ho0,hb⟩;refine ⟨_,rfl,?_⟩;have n0_:=Aside0.mk (Kd.R_below (by (with_reducible repeat (first|apply Kd.R_alloc|apply Kd.R_drewN|apply Kd.R_drew));exact HO_5.out) hb);have n1_:=Aside0.mk (Kd.V_lower (Kd.V_mono (ok':=fun k_ => (w.heap.size ≤ k_) ∧ k_ ≠ gb240 ∧ k_ ≠ gb241 ∧ k_ ≠ gb242) ho0 (fun k_ hk_ => ⟨Or.elim hk_ (fun hs_ => ((Kd.R_types (Kd.R_types (Kd.R_types (HO_5.out) BK240.out (by decide)) BK241.out (by decide)) BK242.out (by decide)).1 k_ hs_.symm).1.1.1) (fun hn_ => (Nat.le_trans (below_size (by repeat (first|(with_reducible first|exact HB.out|apply below_alloc|apply pw_below_drewN|apply below_drew1|refine below_set ?_ GE240.out|refine below_set ?_ GE241.out|refine below_set ?_ GE242.out)|exact HB.out))) hn_)),Or.elim hk_ (fun hs_ => ((Kd.R_types (Kd.R_types (Kd.R_types (HO_5.out) BK240.out (by decide)) BK241.out (by decide)) BK242.out (by decide)).1 k_ hs_.symm).1.1.2) (fun hn_ => (Kd.freshB (g:=gb240) (o:=.cells #[.slice A0_0 l0_0.length c0_0] 85 (0,0)) (by (with_reducible repeat (first|refine blk_drewN ?_ _|refine blk_drew ?_|refine blk_alloc ?_ _));exact BK240.out) k_ hn_)),Or.elim hk_ (fun hs_ => ((Kd.R_types (Kd.R_types (Kd.R_types (HO_5.out) BK240.out (by decide)) BK241.out (by decide)) BK242.out (by decide)).1 k_ hs_.symm).1.2) (fun hn_ => (Kd.freshB (g:=gb241) (o:=.cells #[.slice A1_0 l1_0.length c1_0] 85 (0,0)) (by (with_reducible repeat (first|refine blk_drewN ?_ _|refine blk_drew ?_|refine blk_alloc ?_ _));exact BK241.out) k_ hn_)),Or.elim hk_ (fun hs_ => ((Kd.R_types (Kd.R_types (Kd.R_types (HO_5.out) BK240.out (by decide)) BK241.out (by decide)) BK242.out (by decide)).1 k_ hs_.symm).2) (fun hn_ => (Kd.freshB (g:=gb242) (o:=.cells #[.slice none 0 0] 85 (0,0)) (by (with_reducible repeat (first|refine blk_drewN ?_ _|refine blk_drew ?_|refine blk_alloc ?_ _));exact BK242.out) k_ hn_))⟩)) (below_size (by repeat (first|(with_reducible first|exact HB.out|apply below_alloc|apply pw_below_drewN|apply below_drew1|refine below_set ?_ GE240.out|refine below_set ?_ GE241.out|refine below_set ?_ GE242.out)|exact HB.out))));have n2_:=Aside0.mk (blk_below (g:=gb240) (o:=.cells #[.slice A0_0 l0_0.length c0_0] 85 (0,0)) (by (with_reducible repeat (first|refine blk_drewN ?_ _|refine blk_drew ?_|refine blk_alloc ?_ _));exact BK240.out) hb);have n3_:=Aside0.mk (blk_below (g:=gb241) (o:=.cells #[.slice A1_0 l1_0.length c1_0] 85 (0,0)) (by (with_reducible repeat (first|refine blk_drewN ?_ _|refine blk_drew ?_|refine blk_alloc ?_ _));exact BK241.out) hb);have n4_:=Aside0.mk (blk_below (g:=gb242) (o:=.cells #[.slice none 0 0] 85 (0,0)) (by (with_reducible repeat (first|refine blk_drewN ?_ _|refine blk_drew ?_|refine blk_alloc ?_ _));exact BK242.out) hb);have n5_:=Aside0.mk (below_step (by repeat (first|(with_reducible first|exact HB.out|apply below_alloc|apply pw_below_drewN|apply below_drew1|refine below_set ?_ GE240.out|refine below_set ?_ GE241.out|refine below_set ?_ GE242.out)|exact HB.out)) hb);clear HO_5;clear BK240;clear BK241;clear BK242;clear HB;have HO_5:=n0_;have HO250:=n1_;have BK240:=n2_;have BK241:=n3_;have BK242:=n4_;have HB:=n5_;clear n0_ n1_ n2_ n3_ n4_ n5_;(try clear hb);(try clear hb2);(try clear hk);(try clear hi);(try clear ho0);obtain ⟨Ao33,co33,eo33⟩:=Kd.V_slice HO250.out;subst eo33;have hnb34:=NB242_240.out;have hnc34:=NB240_242.out;have hnb35:=NB242_241.out;have hnc35:=NB241_242.out;have hcz36_0 : w32.cell? ⟨gb242,0,none⟩ = some (.slice none 0 0):=(blk_cell BK242.out 0).trans rfl;have hfz36_0:=blk_frozen BK242.out 0))
      refine bodyPost_ret (results_cell_row rfl _ _ gb242 85 #[.slice Ao33 t248.length co33] (0,0) _ rfl (by (with_reducible repeat (first|refine blk_drewN ?_ _|refine blk_drew ?_|refine blk_alloc ?_ _));refine blk_put (cs:=#[.slice none 0 0]) ?_ 0 _ rfl;(with_reducible repeat (first|refine blk_drewN ?_ _|refine blk_drew ?_|refine blk_alloc ?_ _));exact BK242.out) Tryz.underlying85 rfl (by kernel_rfl)) rfl ?_
      exact ⟨_,by first|rfl|(simp [errW_none,errW_some] <;> rfl)|(simp [*,errW_none,errW_some] <;> rfl),by (with_reducible repeat (first|apply Kd.V_alloc|apply Kd.V_drewN|apply Kd.V_drew));exact Kd.V_mono (Kd.V_far (p:=⟨gb242,0,none⟩) (Kd.V_mono HO250.out (fun k_ hk => (⟨hk,hk.2.2.2⟩ : _ ∧ k_ ≠ gb242))) (fun _ hk => hk.2) (.slice Ao33 t248.length co33)) (fun _ hk => hk.1.1),by repeat (first|(with_reducible first|exact HB.out|apply below_alloc|apply pw_below_drewN|apply below_drew1|refine below_set ?_ GE240.out|refine below_set ?_ GE241.out|refine below_set ?_ GE242.out)|exact HB.out)⟩
     subst c22
     have H1 : ((bursarref03_Long_at.f l0_0 x7_1).bind fun t243 => ((bursarref03_Long_at.f l1_0 x7_1).bind fun t244 => (if x5_1.length < 17592186044416 then (bursarref03_Long_plus.l0 kj5 (x5_1 ++ [Int.tmod (wrap64 ((wrap64 (t243 + t244)) + x6_1)) 10]) (wrap64 (Int.tdiv (wrap64 ((wrap64 (t243 + t244)) + x6_1)) 10)) (wrap64 (x7_1 + 1)) l0_0 l1_0) else (none)))) = some r:=by rw [if_pos rfl] at H;exact H
     clear H;have H:=H1;clear H1
     replace H:=Option.bind_eq_some_iff.mp H
     obtain ⟨t243,A230,H⟩:=H
     replace H : ((bursarref03_Long_at.f l1_0 x7_1).bind fun t244 => (if x5_1.length < 17592186044416 then (bursarref03_Long_plus.l0 kj5 (x5_1 ++ [Int.tmod (wrap64 ((wrap64 (t243 + t244)) + x6_1)) 10]) (wrap64 (Int.tdiv (wrap64 ((wrap64 (t243 + t244)) + x6_1)) 10)) (wrap64 (x7_1 + 1)) l0_0 l1_0) else (none))) = some r:=H
     have A23:=Aside0.mk A230
     clear A230
     replace H:=Option.bind_eq_some_iff.mp H
     obtain ⟨t244,A240,H⟩:=H
     replace H : (if x5_1.length < 17592186044416 then (bursarref03_Long_plus.l0 kj5 (x5_1 ++ [Int.tmod (wrap64 ((wrap64 (t243 + t244)) + x6_1)) 10]) (wrap64 (Int.tdiv (wrap64 ((wrap64 (t243 + t244)) + x6_1)) 10)) (wrap64 (x7_1 + 1)) l0_0 l1_0) else (none)) = some r:=H
     have A24:=Aside0.mk A240
     clear A240
     by_cases c25 : x5_1.length < 17592186044416
     rotate_left
     ·rw [if_neg c25] at H
      exact absurd H (by simp)
     rw [if_pos c25] at H
     have LMc25:=Aside0.mk c25
     clear c25
     obtain ⟨y245,hy245⟩ : ∃ y_ : List Int,y_ = (x5_1 ++ [Int.tmod (wrap64 ((wrap64 (t243 + t244)) + x6_1)) 10]):=⟨_,rfl⟩
     replace H : (bursarref03_Long_plus.l0 kj5 y245 (wrap64 (Int.tdiv (wrap64 ((wrap64 (t243 + t244)) + x6_1)) 10)) (wrap64 (x7_1 + 1)) l0_0 l1_0) = some r:=by first|(rw [hy245];with_reducible exact H)|(have H2_:=(Option.bind_some _ _).symm.trans H;rw [hy245];with_reducible exact H2_)|(have H2_:=(Option.bind_some _ _).symm.trans H;with_reducible exact H2_)|with_reducible exact H|(rw [hy245];exact H)|exact H
     have Ny245:=Aside0.mk hy245
     clear hy245
     have H':=Aside0.mk H
     clear H
     try go_wp2
     have n0_:=Aside0.mk (Kd.R_drew HO_5.out)
     have n1_:=Aside0.mk (blk_drew BK240.out)
     have n2_:=Aside0.mk (blk_drew BK241.out)
     have n3_:=Aside0.mk (blk_drew BK242.out)
     have n4_:=Aside0.mk (below_drew1 HB.out)
     clear HO_5;clear BK240;clear BK241;clear BK242;clear HB;have HO_5:=n0_;have BK240:=n1_;have BK241:=n2_;have BK242:=n3_;have HB:=n4_;clear n0_ n1_ n2_ n3_ n4_
     refine start_ (n:=10) (S:=fun w' => w'.cell? ⟨gb240,0,none⟩ = some (.slice A0_0 l0_0.length c0_0) ∧ w'.cell? ⟨gb241,0,none⟩ = some (.slice A1_0 l1_0.length c1_0)) (ds:=[]) #[false,false,false,false,false,false,false,false,false,false] (by kernel_rfl) rfl rfl ⟨(blk_cell BK240.out 0).trans rfl,(blk_cell BK241.out 0).trans rfl⟩ (fun hHeld => ?_);refine with_tabW bursarref03_Long_plus.tab6 bursarref03_Long_plus.bits6 (fun HT_ HW_ => ?_)
     generalize wc.drew = w26 at HO_5 BK240 BK241 BK242 HB hHeld ⊢
     refine pure_ (i:=1) (N:=some 28) (v:=?_) (a':=?_) #[false,true,false,false,false,false,false,false,false,false] rfl rfl (any_of HT_.out (by kernel_rfl)) (fun _ _ _ h => h) (Or.inl ⟨by rfl,?_⟩) ?_ ?_
     rotate_left;·intro w';go_simp;with_reducible rfl
     rotate_left;·simp only [pu_];rfl
     refine pure_ (i:=4) (N:=some 31) (v:=?_) (a':=?_) #[false,true,false,false,true,false,false,false,false,false] rfl rfl (any_of HT_.out (by kernel_rfl)) (fun _ _ _ h => h) (Or.inl ⟨by rfl,?_⟩) ?_ ?_
     rotate_left;·intro w';go_simp;with_reducible rfl
     rotate_left;·simp only [pu_];rfl
     refine pure_ (i:=7) (N:=some 34) (v:=?_) (a':=?_) #[false,true,false,false,true,false,false,true,false,false] rfl rfl (any_of HT_.out (by kernel_rfl)) (fun _ _ _ h => h) (Or.inl ⟨by rfl,?_⟩) ?_ ?_
     rotate_left;·intro w';go_simp;with_reducible rfl
     rotate_left;·simp only [pu_];rfl
     refine take_ (i:=0) (N:=some 27) (v:=?_) (a':=?_) #[true,true,false,false,true,false,false,true,false,false] rfl rfl (take_ofW HT_.out HW_.out (by kernel_rfl)) (fun _ _ _ h => h) (Or.inl ⟨by rfl,?_⟩) hHeld ?_ ?_
     rotate_left
     ·rintro w' ⟨s0,s1⟩
      go_simp
      with_reducible rfl
     rotate_left
     ·simp only [pu_]
      rfl
     refine take_ (i:=3) (N:=some 30) (v:=?_) (a':=?_) #[true,true,false,true,true,false,false,true,false,false] rfl rfl (take_ofW HT_.out HW_.out (by kernel_rfl)) (fun _ _ _ h => h) (Or.inl ⟨by rfl,?_⟩) hHeld ?_ ?_
     rotate_left
     ·rintro w' ⟨s0,s1⟩
      go_simp
      with_reducible rfl
     rotate_left
     ·simp only [pu_]
      rfl
     refine one_ (i:=2) (N:=some 29) #[true,true,true,true,true,false,false,true,false,false] rfl rfl (one_of HT_.out (by kernel_rfl)) (by decide) (fun K hK => ?_)
     refine goes_ Tryz.func92 (by kernel_rfl) rfl #[.agg #[.slice A0_0 l0_0.length c0_0],.int .i64 x7_1] (by rfl) rfl rfl (by (try simp only [List.map_toArray,List.map_cons,List.map_nil]);first|done|rfl|(simp only [List.length_drop,List.length_take];rfl)) ?_
     with_reducible refine (bursarref03_Long_at.calls _ _ l0_0 x7_1 t243 _ ?side1 ?side2 A23.out).mono ?_
     (case side1 => repeat (first|exact (Kd.C_below HR0_0.out HB.out)|(with_reducible refine Kd.C_alloc ?_ _)|(with_reducible refine Kd.C_drewN ?_ _)|(with_reducible refine Kd.C_drew ?_)))
     (case side2 => exact HC0_0.out)
     rintro e w27 ⟨rfl,hb⟩
     refine ⟨_,rfl,?_⟩
     have n0_:=Aside0.mk (Kd.R_below (by (with_reducible repeat (first|apply Kd.R_alloc|apply Kd.R_drewN|apply Kd.R_drew));exact HO_5.out) hb)
     have n1_:=Aside0.mk (blk_below (g:=gb240) (o:=.cells #[.slice A0_0 l0_0.length c0_0] 85 (0,0)) (by (with_reducible repeat (first|refine blk_drewN ?_ _|refine blk_drew ?_|refine blk_alloc ?_ _));exact BK240.out) hb)
     have n2_:=Aside0.mk (blk_below (g:=gb241) (o:=.cells #[.slice A1_0 l1_0.length c1_0] 85 (0,0)) (by (with_reducible repeat (first|refine blk_drewN ?_ _|refine blk_drew ?_|refine blk_alloc ?_ _));exact BK241.out) hb)
     have n3_:=Aside0.mk (blk_below (g:=gb242) (o:=.cells #[.slice none 0 0] 85 (0,0)) (by (with_reducible repeat (first|refine blk_drewN ?_ _|refine blk_drew ?_|refine blk_alloc ?_ _));exact BK242.out) hb)
     have n4_:=Aside0.mk (below_step (by repeat (first|(with_reducible first|exact HB.out|apply below_alloc|apply pw_below_drewN|apply below_drew1|refine below_set ?_ GE240.out|refine below_set ?_ GE241.out|refine below_set ?_ GE242.out)|exact HB.out)) hb)
     clear HO_5;clear BK240;clear BK241;clear BK242;clear HB;have HO_5:=n0_;have BK240:=n1_;have BK241:=n2_;have BK242:=n3_;have HB:=n4_;clear n0_ n1_ n2_ n3_ n4_;(try clear hb);(try clear hb2);(try clear hk);(try clear hi)
     refine hK.out _ _ ⟨(blk_cell BK240.out 0).trans rfl,(blk_cell BK241.out 0).trans rfl⟩ (fun hHeld => ?_)
     clear hK K
     refine norm_ (a':=?_) ?_ ?_
     rotate_left
     ·show Act.put _ (some 29) _ = _
      simp only [pu_]
      rfl
     refine one_ (i:=5) (N:=some 32) #[true,true,true,true,true,true,false,true,false,false] rfl rfl (one_of HT_.out (by kernel_rfl)) (by decide) (fun K hK => ?_)
     refine goes_ Tryz.func92 (by kernel_rfl) rfl #[.agg #[.slice A1_0 l1_0.length c1_0],.int .i64 x7_1] (by rfl) rfl rfl (by (try simp only [List.map_toArray,List.map_cons,List.map_nil]);first|done|rfl|(simp only [List.length_drop,List.length_take];rfl)) ?_
     with_reducible refine (bursarref03_Long_at.calls _ _ l1_0 x7_1 t244 _ ?side1 ?side2 A24.out).mono ?_
     (case side1 => repeat (first|exact (Kd.C_below HR1_0.out HB.out)|(with_reducible refine Kd.C_alloc ?_ _)|(with_reducible refine Kd.C_drewN ?_ _)|(with_reducible refine Kd.C_drew ?_)))
     (case side2 => exact HC1_0.out)
     rintro e w28 ⟨rfl,hb⟩
     refine ⟨_,rfl,?_⟩
     have n0_:=Aside0.mk (Kd.R_below (by (with_reducible repeat (first|apply Kd.R_alloc|apply Kd.R_drewN|apply Kd.R_drew));exact HO_5.out) hb)
     have n1_:=Aside0.mk (blk_below (g:=gb240) (o:=.cells #[.slice A0_0 l0_0.length c0_0] 85 (0,0)) (by (with_reducible repeat (first|refine blk_drewN ?_ _|refine blk_drew ?_|refine blk_alloc ?_ _));exact BK240.out) hb)
     have n2_:=Aside0.mk (blk_below (g:=gb241) (o:=.cells #[.slice A1_0 l1_0.length c1_0] 85 (0,0)) (by (with_reducible repeat (first|refine blk_drewN ?_ _|refine blk_drew ?_|refine blk_alloc ?_ _));exact BK241.out) hb)
     have n3_:=Aside0.mk (blk_below (g:=gb242) (o:=.cells #[.slice none 0 0] 85 (0,0)) (by (with_reducible repeat (first|refine blk_drewN ?_ _|refine blk_drew ?_|refine blk_alloc ?_ _));exact BK242.out) hb)
     have n4_:=Aside0.mk (below_step (by repeat (first|(with_reducible first|exact HB.out|apply below_alloc|apply pw_below_drewN|apply below_drew1|refine below_set ?_ GE240.out|refine below_set ?_ GE241.out|refine below_set ?_ GE242.out)|exact HB.out)) hb)
     clear HO_5;clear BK240;clear BK241;clear BK242;clear HB;have HO_5:=n0_;have BK240:=n1_;have BK241:=n2_;have BK242:=n3_;have HB:=n4_;clear n0_ n1_ n2_ n3_ n4_;(try clear hb);(try clear hb2);(try clear hk);(try clear hi)
     refine hK.out _ _ ⟨(blk_cell BK240.out 0).trans rfl,(blk_cell BK241.out 0).trans rfl⟩ (fun hHeld => ?_)
     clear hK K
     refine norm_ (a':=?_) ?_ ?_
     rotate_left
     ·show Act.put _ (some 32) _ = _
      simp only [pu_]
      rfl
     refine pure_ (i:=6) (N:=some 33) (v:=?_) (a':=?_) #[true,true,true,true,true,true,true,true,false,false] rfl rfl (any_of HT_.out (by kernel_rfl)) (fun _ _ _ h => h) (Or.inl ⟨by rfl,?_⟩) ?_ ?_
     rotate_left;·intro w';go_simp;with_reducible rfl
     rotate_left;·simp only [pu_];rfl
     refine pure_ (i:=8) (N:=some 35) (v:=?_) (a':=?_) #[true,true,true,true,true,true,true,true,true,false] rfl rfl (any_of HT_.out (by kernel_rfl)) (fun _ _ _ h => h) (Or.inl ⟨by rfl,?_⟩) ?_ ?_
     rotate_left;·intro w';go_simp;with_reducible rfl
     rotate_left;·simp only [pu_];rfl
     refine pure_ (i:=9) (N:=some 8) (v:=?_) (a':=?_) #[true,true,true,true,true,true,true,true,true,true] rfl rfl (any_of HT_.out (by kernel_rfl)) (fun _ _ _ h => h) (Or.inl ⟨by rfl,?_⟩) ?_ ?_
     rotate_left;·intro w';go_simp;with_reducible rfl
     rotate_left;·simp only [pu_];rfl
     refine done_ (done_of HT_.out (by kernel_rfl)) ?_
     try go_wp2_with (first|((with_reducible refine gate_builtin (b:=.append) (xs:=#[.tmp 36,.tmp 39]) rfl ?_);(try (refine gate_guard (by rfl) ?_;dsimp only));at_builtin;refine Kd.R_append (Kd.int .i64) (w0:=w) w.heap.size rfl (.tmp 36) (.tmp 39) 80 3 (.int .i64 0) 8 rfl Tryz.underlying80 info3 rfl (by decide) (by omega) u5 x5_1 (Int.tmod (wrap64 ((wrap64 (t243 + t244)) + x6_1)) 10) [.int .i64 (Int.tmod (wrap64 ((wrap64 (t243 + t244)) + x6_1)) 10)] (fun k_ => (w.heap.size ≤ k_)) (fun _ => False) rfl rfl ?aP (fun _ hk => hk.elim) ?aF ?aO ?aB ?aS ?aL ?_;(case aP => exact rfl);(case aB => exact (by repeat (first|(with_reducible first|exact HB.out|apply below_alloc|apply pw_below_drewN|apply below_drew1|refine below_set ?_ GE240.out|refine below_set ?_ GE241.out|refine below_set ?_ GE242.out)|exact HB.out)));(case aF => exact (fun k_ hk => (Nat.le_trans (below_size (by repeat (first|(with_reducible first|exact HB.out|apply below_alloc|apply pw_below_drewN|apply below_drew1|refine below_set ?_ GE240.out|refine below_set ?_ GE241.out|refine below_set ?_ GE242.out)|exact HB.out))) hk)));(case aO => exact (by (with_reducible repeat (first|apply Kd.R_alloc|apply Kd.R_drewN|apply Kd.R_drew));exact HO_5.out));(case aS => exact (below_size (by repeat (first|(with_reducible first|exact HB.out|apply below_alloc|apply pw_below_drewN|apply below_drew1|refine below_set ?_ GE240.out|refine below_set ?_ GE241.out|refine below_set ?_ GE242.out)|exact HB.out))));(case aL => have:=LMc25.out;omega);intro v246 w29 ho hb hg hat;rw [← Ny245.out] at ho;have n0_:=Aside0.mk (blk_grown (g:=gb240) (o:=.cells #[.slice A0_0 l0_0.length c0_0] 85 (0,0)) (by (with_reducible repeat (first|refine blk_drewN ?_ _|refine blk_drew ?_|refine blk_alloc ?_ _));exact BK240.out) hg (Kd.R_ne HO_5.out BK240.out (by decide)));have n1_:=Aside0.mk (blk_grown (g:=gb241) (o:=.cells #[.slice A1_0 l1_0.length c1_0] 85 (0,0)) (by (with_reducible repeat (first|refine blk_drewN ?_ _|refine blk_drew ?_|refine blk_alloc ?_ _));exact BK241.out) hg (Kd.R_ne HO_5.out BK241.out (by decide)));have n2_:=Aside0.mk (blk_grown (g:=gb242) (o:=.cells #[.slice none 0 0] 85 (0,0)) (by (with_reducible repeat (first|refine blk_drewN ?_ _|refine blk_drew ?_|refine blk_alloc ?_ _));exact BK242.out) hg (Kd.R_ne HO_5.out BK242.out (by decide)));have n3_:=Aside0.mk (hb);have n4_:=Aside0.mk (ho);clear BK240;clear BK241;clear BK242;clear HB;clear HO_5;have BK240:=n0_;have BK241:=n1_;have BK242:=n2_;have HB:=n3_;have HO247:=n4_;clear n0_ n1_ n2_ n3_ n4_;clear ho hb hg hat))
     go_roundg kj5
     case measure => have:=HK1.out;have:=HJ5.out;omega
     case rel => exact ⟨(y245),(wrap64 (Int.tdiv (wrap64 ((wrap64 (t243 + t244)) + x6_1)) 10)),(wrap64 (x7_1 + 1)),(by first|rfl|(simp;done)|(simp [*];done)|(simp;rw [Bool.eq_iff_iff];simp;done)|(rw [Bool.eq_iff_iff];simp;done)),(by first|rfl|(simp;done)|(simp [*];done)|(simp;rw [Bool.eq_iff_iff];simp;done)|(rw [Bool.eq_iff_iff];simp;done)),H',⟨by have:=HK1.out;have:=HJ5.out;omega⟩,⟨by (with_reducible repeat (first|apply Kd.R_alloc|apply Kd.R_drewN|apply Kd.R_drew));exact HO247.out⟩,⟨by (with_reducible repeat (first|refine blk_drewN ?_ _|refine blk_drew ?_|refine blk_alloc ?_ _));exact BK240.out⟩,⟨by (with_reducible repeat (first|refine blk_drewN ?_ _|refine blk_drew ?_|refine blk_alloc ?_ _));exact BK241.out⟩,⟨by (with_reducible repeat (first|refine blk_drewN ?_ _|refine blk_drew ?_|refine blk_alloc ?_ _));exact BK242.out⟩,⟨by repeat (first|(with_reducible first|exact HB.out|apply below_alloc|apply pw_below_drewN|apply below_drew1|refine below_set ?_ GE240.out|refine below_set ?_ GE241.out|refine below_set ?_ GE242.out)|exact HB.out)⟩⟩
end Go.Proofs.YtejgbdclhlolkaaGreatDoor.Q
