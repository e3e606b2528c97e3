/- What the statement QuantParsesUptoCardSaid rests on, part 4 of 7: walks and plain laws; what of the printer's words it leans on. -/
import Derived.Test.YtejgbdclhlolkaaGreatDoorProg
import Derived.Test.YtejgbdclhlolkaaGreatDoorMQPa3
import Derived.Shelf.SlGeneric
import Derived.Shelf.SlSortCmp.WholeK
import Derived.Ground.SlsfProg
import Derived.Ground.NamesProg
import Derived.Maps.RangeWalk
import Derived.Maps.OwnSet
import Derived.Shelf.SlSortCmp.NoneTotal
namespace Go.Proofs
open Go.Shelf
def Tryz.sortAm_ren : Go.Shelf.Ren := ⟨fun | 6 => 95 | 15 => 119 | 14 => 118 | 28 => 145 | 29 => 91 | 20 => 137 | 21 => 138 | 22 => 139 | 23 => 140 | 24 => 141 | 25 => 142 | 26 => 143 | 27 => 144 | 46 => 155 | 47 => 156 | 48 => 157 | 49 => 158 | 50 => 159 | 57 => 162 | n => n, fun | 22 => 46 | 24 => 57 | 25 => 116 | 3 => 3 | 39 => 35 | 0 => 0 | 53 => 34 | 55 => 36 | 4 => 4 | 46 => 148 | 45 => 147 | 50 => 152 | 5 => 5 | 9 => 9 | 66 => 164 | 70 => 168 | 76 => 175 | 77 => 176 | n => n, fun | n => n⟩
theorem Tryz.sortAm : Go.Proofs.SlLaysF0.n6 Tryz.prog Tryz.sortAm_ren := {
  mixed := by kernel_rfl
  f6 := ⟨Tryz.f95.name, by decide, Tryz.func95.trans (congrArg some (by kernel_rfl))⟩
  f14 := ⟨Tryz.f118.name, by decide, Tryz.func118.trans (congrArg some (by kernel_rfl))⟩
  f15 := Tryz.func119.trans (congrArg some (by kernel_rfl))
  f20 := ⟨Tryz.f137.name, by decide, Tryz.func137.trans (congrArg some (by kernel_rfl))⟩
  f21 := ⟨Tryz.f138.name, by decide, Tryz.func138.trans (congrArg some (by kernel_rfl))⟩
  f22 := ⟨Tryz.f139.name, by decide, Tryz.func139.trans (congrArg some (by kernel_rfl))⟩
  f23 := ⟨Tryz.f140.name, by decide, Tryz.func140.trans (congrArg some (by kernel_rfl))⟩
  f24 := ⟨Tryz.f141.name, by decide, Tryz.func141.trans (congrArg some (by kernel_rfl))⟩
  f25 := ⟨Tryz.f142.name, by decide, Tryz.func142.trans (congrArg some (by kernel_rfl))⟩
  f26 := ⟨Tryz.f143.name, by decide, Tryz.func143.trans (congrArg some (by kernel_rfl))⟩
  f27 := ⟨Tryz.f144.name, by decide, Tryz.func144.trans (congrArg some (by kernel_rfl))⟩
  f28 := Tryz.func145.trans (congrArg some (by kernel_rfl))
  f29 := Tryz.func91.trans (congrArg some (by kernel_rfl))
  f46 := ⟨Tryz.f155.name, by decide, Tryz.func155.trans (congrArg some (by kernel_rfl))⟩
  f47 := Tryz.func156.trans (congrArg some (by kernel_rfl))
  f48 := Tryz.func157.trans (congrArg some (by kernel_rfl))
  f49 := ⟨Tryz.f158.name, by decide, Tryz.func158.trans (congrArg some (by kernel_rfl))⟩
  f50 := ⟨Tryz.f159.name, by decide, Tryz.func159.trans (congrArg some (by kernel_rfl))⟩
  f57 := ⟨Tryz.f162.name, by decide, Tryz.func162.trans (congrArg some (by kernel_rfl))⟩
  t0 := Tryz.underlying0
  a0 := Tryz.isAgg0
  z0 := Tryz.sizeOf0
  v0 := Tryz.zeroValue0
  t3 := Tryz.underlying3
  a3 := Tryz.isAgg3
  z3 := Tryz.sizeOf3
  v3 := Tryz.zeroValue3
  t4 := Tryz.underlying4
  a4 := Tryz.isAgg4
  z4 := Tryz.sizeOf4
  v4 := Tryz.zeroValue4
  t5 := Tryz.underlying5
  a5 := Tryz.isAgg5
  z5 := Tryz.sizeOf5
  v5 := Tryz.zeroValue5
  t9 := Tryz.underlying9
  a9 := Tryz.isAgg9
  z9 := Tryz.sizeOf9
  v9 := Tryz.zeroValue9
  t22 := Tryz.underlying46
  a22 := Tryz.isAgg46
  z22 := Tryz.sizeOf46
  v22 := Tryz.zeroValue46
  t25 := Tryz.underlying116
  a25 := Tryz.isAgg116
  z25 := Tryz.sizeOf116
  v25 := Tryz.zeroValue116
  t39 := Tryz.underlying35
  a39 := Tryz.isAgg35
  z39 := Tryz.sizeOf35
  v39 := Tryz.zeroValue35
  t45 := Tryz.underlying147
  a45 := Tryz.isAgg147
  z45 := Tryz.sizeOf147
  v45 := Tryz.zeroValue147
  t46 := Tryz.underlying148
  a46 := Tryz.isAgg148
  z46 := Tryz.sizeOf148
  v46 := Tryz.zeroValue148
  t50 := Tryz.underlying152
  a50 := Tryz.isAgg152
  z50 := Tryz.sizeOf152
  v50 := Tryz.zeroValue152
  t53 := Tryz.underlying34
  a53 := Tryz.isAgg34
  z53 := Tryz.sizeOf34
  v53 := Tryz.zeroValue34
  t55 := Tryz.underlying36
  a55 := Tryz.isAgg36
  z55 := Tryz.sizeOf36
  v55 := Tryz.zeroValue36
  t66 := Tryz.underlying164
  a66 := Tryz.isAgg164
  z66 := Tryz.sizeOf164
  v66 := Tryz.zeroValue164
  t70 := Tryz.underlying168
  a70 := Tryz.isAgg168
  z70 := Tryz.sizeOf168
  v70 := Tryz.zeroValue168
  t76 := Tryz.underlying175
  a76 := Tryz.isAgg175
  z76 := Tryz.sizeOf175
  v76 := Tryz.zeroValue175
  t77 := Tryz.underlying176
  a77 := Tryz.isAgg176
  z77 := Tryz.sizeOf176
  v77 := Tryz.zeroValue176 }
end Go.Proofs
namespace Go.Proofs.YtejgbdclhlolkaaGreatDoor.Q
open Go.RowKit Go.Lib Go.Sort Go.Shelf Go.Proofs.YtejgbdclhlolkaaGreatDoorW.PrintWords Go.Proofs.YtejgbdclhlolkaaGreatDoorW.PrintLast
set_option linter.unusedVariables false
set_option linter.unusedSimpArgs false
theorem cmp_less : ∀ a b : List UInt8, decide (Lib.compareBytes a b < 0) = Op.bytesLess a b
  | [], [] => rfl
  | [], _ :: _ => rfl
  | _ :: _, [] => rfl
  | a :: x, b :: y => by
    simp only [Lib.compareBytes, Op.bytesLess]
    by_cases h1 : a < b
    · simp [h1]
    · by_cases h2 : b < a
      · have : (a == b) = false := beq_eq_false_iff_ne.2 (fun e => by subst e; exact h1 h2)
        simp [h1, h2, this]
      · have e : a = b := UInt8.le_antisymm (UInt8.not_lt.1 h2) (UInt8.not_lt.1 h1)
        subst e
        simp [h1, cmp_less x y]
instance : Inhabited S57 := ⟨z57⟩
def encAm (x : S57) : List Value := [.string x.f0, .int .i64 x.f1]
def cmpAm (x y : S57) : Int := Lib.compareBytes x.f0.data.toList y.f0.data.toList
theorem ltAm (x y : S57) : ltOf cmpAm x y = Op.bytesLess x.f0.data.toList y.f0.data.toList := by
  unfold ltOf cmpAm
  exact cmp_less _ _
theorem swoAm : SWO (ltOf cmpAm) where
  irrefl x := by rw [ltAm]; exact less_irrefl _
  trans x y z h1 h2 := by rw [ltAm] at *; exact less_trans _ _ _ h1 h2
  ntrans x y z h1 h2 := by
    rw [ltAm] at *
    cases h3 : Op.bytesLess x.f0.data.toList z.f0.data.toList with
    | false => rfl
    | true =>
      exfalso
      have t := less_total y.f0.data.toList x.f0.data.toList
      rw [h1, Bool.not_false, Bool.or_eq_true] at t
      rcases t with t | t
      · rw [less_trans _ _ _ t h3] at h2; cases h2
      · rw [beq_iff_eq] at t
        rw [t, h3] at h2; cases h2
set_option maxHeartbeats 2000000 in
set_option maxRecDepth 100000 in
theorem listed1_calls (x y : S57) (W : World) : Calls Tryz.prog 96 #[.agg #[.string x.f0, .int .i64 x.f1], .agg #[.string y.f0, .int .i64 y.f1]] W fun e w' => e = .returned (.int .i64 (cmpAm x y)) ∧ ∃ q os', w' = grow (W.drewN q) os' := by
  have hu57 := Tryz.underlying57
  have hcon := fun W' => Tryz.strings_Compare x.f0 y.f0 W'
  change ∀ W', Calls Tryz.prog 97 _ _ (fun e w' => e = .returned (.int .i64 (cmpAm x y)) ∧ w' = W') at hcon
  generalize cmpAm x y = r at hcon ⊢
  go_enter Tryz.func96, Tryz.ntmps96
  go_wp2_with (go_at_call 97; refine (hcon _).mono ?_; rintro e w' ⟨rfl, rfl⟩)
  go_ret
  exact ⟨rfl, 0, _, by rw [alloc_eq_grow, alloc_eq_grow, grow_grow]; rfl⟩
theorem cmpLaysAm (blk off size : Nat) (w : World) : CmpLays Tryz.prog 96 #[] encAm 2 cmpAm blk off size w :=
  fun _ _ _ _ x y => listed1_calls x y _
theorem sort_calls (blk off cap : Nat) (d : Array S57) (w : World) (hH : HoldsK encAm 2 w blk off d) (hblk : blk < w.heap.size) (hsz : d.size < 4611686018427387904) :
    Calls Tryz.prog 95 #[.slice (some ⟨blk, off, none⟩) d.size cap, .func (.func 96) #[] #[]] w fun e w' => e = .returned (.tuple #[]) ∧ ∃ d' n os, PermIn 0 d.size d d' ∧ SortedIn (ltOf cmpAm) 0 d.size d' ∧ w' = sortWorldK encAm 2 w blk off n d' os := by
  have eg : ∀ args w, (callFunc 96 args).run Tryz.prog w = .ok (.enter 96 args) w := enters_of Tryz.func96 (by kernel_rfl) rfl
  exact AnyQ.slices_SortFunc Tryz.sortAm 2 Tryz.isAgg57 Tryz.sizeOf57 encAm (fun _ => rfl) (fun x v hv => by simp [encAm] at hv; rcases hv with rfl | rfl <;> rfl) cmpAm swoAm 96 #[] blk off cap d w eg (cmpLaysAm blk off d.size w) hH hblk hsz
end Go.Proofs.YtejgbdclhlolkaaGreatDoor.Q
namespace Go.Proofs.YtejgbdclhlolkaaGreatDoor.Q
open Go.RowKit Go.Lib Go.Sort Go.Shelf Go.WideMaps Go.Maps Go.Proofs.YtejgbdclhlolkaaGreatDoorW.PrintWords Go.Proofs.YtejgbdclhlolkaaGreatDoorW.PrintLast
set_option linter.unusedVariables false
set_option linter.unusedSimpArgs false
def keyL (x : S57) : Lit := .string x.f0.data.toList
structure Gathered (xs : List S57) (D : DataW Unit) (left : Lit → Bool) : Prop where
  apart : (xs.map keyL).Nodup
  here : ∀ x ∈ xs, left (keyL x) = false ∧ Maps.has D (keyL x) = true ∧ ∀ z, D.atKey (keyL x) z = .lit (.int .i64 x.f1)
  all : ∀ s : List UInt8, Maps.has D (.string s) = true → left (.string s) = false → Lit.string s ∈ xs.map keyL
theorem gathered_start (D : DataW Unit) : Gathered [] D (Maps.has D) := ⟨by simp, by simp, fun s h1 h2 => by rw [h1] at h2; cases h2⟩
theorem gathered_step {xs : List S57} {D : DataW Unit} {left : Lit → Bool} (h : Gathered xs D left) (x : S57) (hl : left (keyL x) = true) (hat : ∀ z, D.atKey (keyL x) z = .lit (.int .i64 x.f1)) :
    Gathered (xs ++ [x]) D (fun z => left z && !z.sameKey (keyL x)) := by
  have hnot : keyL x ∉ xs.map keyL := fun hm => by
    obtain ⟨y, hy, e⟩ := List.mem_map.1 hm
    have := (h.here y hy).1
    rw [e, hl] at this
    cases this
  have hself : (keyL x).sameKey (keyL x) = true := WideAt.sameKey_self (by trivial)
  refine ⟨?_, ?_, ?_⟩
  · rw [List.map_append, List.nodup_append]
    refine ⟨h.apart, by simp, fun a ha b hb => ?_⟩
    simp at hb
    subst hb
    exact fun e => hnot (e ▸ ha)
  · intro y hy
    rcases List.mem_append.1 hy with hy | hy
    · obtain ⟨h1, h2⟩ := h.here y hy
      exact ⟨by simp [h1], h2⟩
    · obtain rfl : y = x := by simpa using hy
      refine ⟨by simp [hself], Maps.has_true_of_atKey hat, hat⟩
  · intro s h1 h2
    rw [List.map_append, List.mem_append]
    by_cases e : Lit.string s = keyL x
    · exact .inr (by simp [e])
    · left
      refine h.all s h1 ?_
      rw [sameKey_ne e] at h2
      simpa using h2
theorem flat_get {xs : List S57} {t : Nat} (ht : t < xs.length * 2) : (flatK encAm 2 xs.toArray).toList[t]? = (encAm (xs.getD (t / 2) z57))[t % 2]? := by
  have hj : t / 2 < xs.length := by omega
  have h1 : (flatK encAm 2 xs.toArray).toList[t]? = some ((encAm (xs.toArray[t / 2]!))[t % 2]!) := by
    rw [Array.getElem?_toList]
    simp [flatK, ht]
  have h2 : xs.toArray[t / 2]! = xs.getD (t / 2) z57 := by
    simp [List.getD_eq_getElem?_getD, hj]
  rw [h1, h2]
  have h3 : t % 2 = 0 ∨ t % 2 = 1 := by omega
  rcases h3 with h3 | h3 <;> rw [h3] <;> rfl
theorem flat_len (xs : List S57) : (flatK encAm 2 xs.toArray).toList.length = xs.length * 2 := by simp
theorem inner57 {w : World} {base : Nat} {ok : Nat → Prop} {xs : List S57} {inner : List Value} (h : Reps (k57.M w base ok) 2 xs inner) : inner = (flatK encAm 2 xs.toArray).toList := by
  apply List.ext_getElem?
  intro t
  by_cases ht : t < xs.length * 2
  · have hj : t / 2 < xs.length := by omega
    have hk := k57_openM (h.2 (t / 2) _ (List.getElem?_eq_getElem hj))
    have h1 : inner[t]? = ((inner.drop (t / 2 * 2)).take 2)[t % 2]? := by
      rw [List.getElem?_take_of_lt (by omega), List.getElem?_drop]
      congr 1
      omega
    rw [h1, hk, flat_get ht]
    simp [encAm, List.getD_eq_getElem?_getD, hj]
  · rw [List.getElem?_eq_none (by rw [h.1]; omega), List.getElem?_eq_none (by rw [flat_len]; omega)]
theorem reps57 (w : World) (base : Nat) (ok : Nat → Prop) (xs : List S57) : Reps (k57.M w base ok) 2 xs (flatK encAm 2 xs.toArray).toList := by
  refine ⟨flat_len xs, fun j p hj => ?_⟩
  obtain ⟨hl, rfl⟩ := List.getElem?_eq_some_iff.1 hj
  have e : (((flatK encAm 2 xs.toArray).toList.drop (j * 2)).take 2) = encAm xs[j] := by
    apply List.ext_getElem?
    intro t
    by_cases ht : t < 2
    · rw [List.getElem?_take_of_lt ht, List.getElem?_drop, flat_get (by omega)]
      have h1 : (j * 2 + t) / 2 = j := by omega
      have h2 : (j * 2 + t) % 2 = t := by omega
      rw [h1, h2]
      simp [List.getD_eq_getElem?_getD, hl]
    · rw [List.getElem?_take_eq_none (by omega), List.getElem?_eq_none (by simp [encAm]; omega)]
  rw [e]
  exact k57_mkM w base ok _
theorem holds57 {w : World} {g : Nat} {cur : Array Value} {e : TypeId} {xs : List S57} (hb : w.heap[g]? = some (.cells cur e (0, 0))) (ht : cur.toList.take (xs.length * 2) = (flatK encAm 2 xs.toArray).toList) : HoldsK encAm 2 w g 0 xs.toArray := by
  unfold HoldsK
  intro j hj
  have hj' : j < xs.length * 2 := by simpa using hj
  refine ⟨?_, by simp [World.frozen?, hb]⟩
  have h1 : (cur.toList.take (xs.length * 2))[j]? = (flatK encAm 2 xs.toArray).toList[j]? := by rw [ht]
  rw [List.getElem?_take_of_lt hj'] at h1
  simp only [World.cell?, hb, Nat.zero_add]
  simp only [Option.isSome_none, Bool.false_eq_true, if_false]
  rw [← Array.getElem?_toList, h1, Array.getElem?_toList, Array.getElem?_eq_getElem hj, getElem!_pos _ j hj]
  rfl
theorem heap57 {w : World} {g n : Nat} {os : Array Obj} {cur : Array Value} {e : TypeId} {fr : Nat × Nat} (d : Array S57) (hb : w.heap[g]? = some (.cells cur e fr)) :
    (sortWorldK encAm 2 w g 0 n d os).heap[g]? = some (.cells (putCells id 0 (flatK encAm 2 d) cur) e fr) := by
  have hg : g < w.heap.size := (Array.getElem?_eq_some_iff.1 hb).1
  unfold sortWorldK putRowK
  rw [heap_grow_old _ _ (by simpa using hg)]
  simp [putRow, mapBlock, Sort.ahead, Array.getElem?_modify, hb, onCells]
theorem grown57 {w : World} {g n : Nat} {os : Array Obj} (d : Array S57) : w.grownBy (sortWorldK encAm 2 w g 0 n d os) (some g) := by
  unfold sortWorldK putRowK
  refine ⟨rfl, rfl, rfl, by simp, fun k hk hne => ?_⟩
  rw [heap_grow_old _ _ (by simpa using hk)]
  have : g ≠ k := fun e => hne (by rw [e])
  simp [putRow, mapBlock, Sort.ahead, Array.getElem?_modify, this]
theorem take57 (cur : Array Value) (ts : List S57) (h : ts.length * 2 ≤ cur.size) : (putCells id 0 (flatK encAm 2 ts.toArray) cur).toList.take (ts.length * 2) = (flatK encAm 2 ts.toArray).toList := by
  apply List.ext_getElem?
  intro j
  by_cases hj : j < ts.length * 2
  · rw [List.getElem?_take_of_lt hj, Array.getElem?_toList, Array.getElem?_toList]
    simp [putCells, hj, show j < cur.size by omega]
  · rw [List.getElem?_take_eq_none (by omega), List.getElem?_eq_none (by rw [flat_len]; omega)]
def Rises (L : List S57) : Prop := L.Pairwise fun x y => Op.bytesLess x.f0.data.toList y.f0.data.toList = true
structure Tells (D : DataW Unit) (L : List S57) : Prop where
  tidy : Tidy D
  rises : Rises L
  size : Maps.size D = L.length
  here : ∀ x ∈ L, ∀ z, D.atKey (keyL x) z = .lit (.int .i64 x.f1)
  all : ∀ s : List UInt8, Maps.has D (.string s) = true → Lit.string s ∈ L.map keyL
theorem Rises.names {L : List S57} (h : Rises L) : (L.map keyL).Nodup := by
  refine List.Pairwise.map _ (fun x y hxy e => ?_) h
  unfold keyL at e
  injection e with e
  rw [e, less_irrefl] at hxy
  cases hxy
theorem nodup_of_map {α β : Type} (f : α → β) : ∀ {l : List α}, (l.map f).Nodup → l.Nodup
  | [], _ => List.nodup_nil
  | x :: l, h => by
    rw [List.map_cons, List.nodup_cons] at h
    exact List.nodup_cons.2 ⟨fun hm => h.1 (List.mem_map.2 ⟨x, hm, rfl⟩), nodup_of_map f h.2⟩
theorem ba_ext {a b : ByteArray} (h : a.data.toList = b.data.toList) : a = b := by
  obtain ⟨⟨x⟩⟩ := a
  obtain ⟨⟨y⟩⟩ := b
  simp only at h
  rw [h]
theorem map_inj {α β : Type} {f : α → β} {x y : α} : ∀ {l : List α}, (l.map f).Nodup → x ∈ l → y ∈ l → f x = f y → x = y
  | [], _, hx, _, _ => by simp at hx
  | a :: l, h, hx, hy, e => by
    rw [List.map_cons, List.nodup_cons] at h
    rcases List.mem_cons.1 hx with h1 | h1
    · rcases List.mem_cons.1 hy with h2 | h2
      · rw [h1, h2]
      · exact absurd (List.mem_map.2 ⟨y, h2, by rw [← h1]; exact e.symm⟩) h.1
    · rcases List.mem_cons.1 hy with h2 | h2
      · exact absurd (List.mem_map.2 ⟨x, h1, by rw [← h2]; exact e⟩) h.1
      · exact map_inj h.2 h1 h2 e
theorem s57_ext {x y : S57} (h0 : keyL x = keyL y) (h1 : x.f1 = y.f1) : x = y := by
  unfold keyL at h0
  injection h0 with h0
  cases x; cases y
  simp only at h0 h1
  subst h1
  congr 1
  exact ba_ext h0
theorem same_value {D : DataW Unit} {x y : S57} (hx : ∀ z, D.atKey (keyL x) z = .lit (.int .i64 x.f1)) (hy : ∀ z, D.atKey (keyL y) z = .lit (.int .i64 y.f1)) (e : keyL x = keyL y) : x = y := by
  refine s57_ext e ?_
  have h1 := hx (.map [])
  have h2 := hy (.map [])
  rw [← e, h1] at h2
  injection h2 with h2
  injection h2 with _ h2
theorem gathered_perm {xs L : List S57} {D : DataW Unit} {left : Lit → Bool} (h : Gathered xs D left) (hT : Tells D L) (hl : ∀ kl, left kl = false) : xs.Perm L := by
  refine (List.perm_ext_iff_of_nodup (nodup_of_map keyL h.apart) (nodup_of_map keyL hT.rises.names)).2 (fun x => ⟨fun hx => ?_, fun hx => ?_⟩)
  · obtain ⟨_, h2, h3⟩ := h.here x hx
    obtain ⟨y, hy, e⟩ := List.mem_map.1 (hT.all _ h2)
    rw [same_value h3 (hT.here y hy) e.symm]
    exact hy
  · have h2 := Maps.has_true_of_atKey (hT.here x hx)
    obtain ⟨y, hy, e⟩ := List.mem_map.1 (h.all _ h2 (hl _))
    rw [same_value (hT.here x hx) (h.here y hy).2.2 e.symm]
    exact hy
theorem sorted_is {xs L : List S57} {d' : Array S57} (hp : PermIn 0 xs.toArray.size xs.toArray d') (hs : SortedIn (ltOf cmpAm) 0 xs.toArray.size d') (hL : xs.Perm L) (hr : Rises L) : d'.toList = L := by
  have hsz : d'.size = xs.length := by have := hp.1; simpa using this
  have h1 : d'.toList.Perm xs := by
    have := hp.2.2
    have e1 : d'.extract 0 xs.toArray.size = d' := by
      have : xs.toArray.size = d'.size := by simp [hsz]
      rw [this]
      exact Array.extract_size
    have e2 : xs.toArray.extract 0 xs.toArray.size = xs.toArray := Array.extract_size
    rw [e1, e2] at this
    simpa using this
  refine List.Perm.eq_of_pairwise (le := fun a b => Op.bytesLess b.f0.data.toList a.f0.data.toList = false) ?_ ?_ ?_ (h1.trans hL)
  · intro a b ha hb h3 h4
    have hab : a.f0.data.toList = b.f0.data.toList := by
      have t := less_total a.f0.data.toList b.f0.data.toList
      rw [h3, h4] at t
      simpa using t
    have ha' : a ∈ L := (h1.trans hL).mem_iff.1 ha
    by_cases e : a = b
    · exact e
    · exfalso
      have hk : keyL a = keyL b := by unfold keyL; rw [hab]
      have hn := hr.names
      exact e (map_inj hn ha' hb hk)
  · rw [List.pairwise_iff_getElem]
    intro i j hi hj hij
    have := hs i j (Nat.zero_le _) hij (by simpa [hsz] using hj)
    rw [ltAm] at this
    simpa [getElem!_pos, show i < d'.size by simpa using hi, show j < d'.size by simpa using hj] using this
  · refine hr.imp ?_
    intro a b hab
    cases h3 : Op.bytesLess b.f0.data.toList a.f0.data.toList with
    | false => rfl
    | true => exact absurd ((less_trans _ _ _ hab h3).symm.trans (less_irrefl _)) (by decide)
theorem sort_row {w : World} {base : Nat} {ok : Nat → Prop} {v : Value} {xs L : List S57} (HR : Kd.R k57 57 w base ok v xs) (hp : xs.Perm L) (hr : Rises L) (hl : L.length ≤ 16) :
    Calls Tryz.prog 95 #[v, .func (.func 96) #[] #[]] w fun e w' => e = .returned (.tuple #[]) ∧ Kd.R k57 57 w' base ok v L ∧ w.grownBy w' v.ownBlock := by
  obtain ⟨h0, inner, ho, hi⟩ := HR
  have hlen := hp.length_eq
  rcases ho.2 with ⟨rfl, hn⟩ | ⟨g, cap, cur, rfl, hg, hb, h1, h2, h3, h4⟩
  · obtain rfl := List.eq_nil_of_length_eq_zero hn
    obtain rfl : L = [] := List.eq_nil_of_length_eq_zero (by simpa using hlen.symm)
    refine Calls.mono (AnyF.slices_SortFunc_none Tryz.sortAm none 0 (.func (.func 96) #[] #[]) w) ?_
    rintro e w' ⟨rfl, rfl⟩
    exact ⟨rfl, Kd.R_nil _ _ _ _ _, ⟨rfl, rfl, rfl, Nat.le_refl _, fun _ _ _ => rfl⟩⟩
  · have hin := inner57 hi
    have hH := holds57 hb (h4.trans hin)
    have hlt : g < w.heap.size := (Array.getElem?_eq_some_iff.1 hb).1
    have hc := sort_calls g 0 cap xs.toArray w hH hlt (by simp; omega)
    simp only [List.size_toArray] at hc
    refine hc.mono ?_
    rintro e w' ⟨rfl, d', n, os, hP, hS, rfl⟩
    have hd := sorted_is (by simpa using hP) (by simpa using hS) hp hr
    have hsz : d'.size = L.length := by rw [← hd]; simp
    have hda : d' = L.toArray := by rw [← hd]
    refine ⟨rfl, ⟨h0, (flatK encAm 2 L.toArray).toList, ⟨flat_len L, .inr ⟨g, cap, _, by rw [hlen], hg, heap57 d' hb, by omega, h2, by simp [putCells, h3], ?_⟩⟩, reps57 _ _ _ L⟩, grown57 d'⟩
    rw [hda]
    exact take57 cur L (by rw [h3]; show L.length * 2 ≤ cap * 2; omega)
theorem law9 : Keyed Tryz.prog 9 := string_keyed Tryz.underlying9
theorem inv9 (key : Value) (kl : Lit) (h : keyOf Tryz.prog 9 key = some kl) : ∃ x, key = Value.string x := by
  cases key <;> simp [keyOf, Tryz.underlying9, mapKey] at h
  exact ⟨_, rfl⟩
theorem inv2 (v : Value) (y : DataW Unit × List MemPlace) (h : plainElem (H := Unit) Tryz.prog 2 v = some y) : ∃ c, v = Value.int .i64 c := by
  obtain ⟨c, rfl, _⟩ := plainElem_int_inv Tryz.underlying2 h
  exact ⟨c, rfl⟩
theorem key9 {x : ByteArray} {kl : Lit} (h : keyOf Tryz.prog 9 (.string x) = some kl) : kl = .string x.data.toList := by
  simp [keyOf, Tryz.underlying9, mapKey] at h
  exact h.2.symm
theorem elem2 {c : Int} {y : DataW Unit × List MemPlace} (h : plainElem (H := Unit) Tryz.prog 2 (.int .i64 c) = some y) : y.1 = .lit (.int .i64 c) := by
  obtain ⟨c', e, rfl, _⟩ := plainElem_int_inv Tryz.underlying2 h
  cases e
  rfl
def quant_listed.f (L : List S57) : List S57 × Int := if L.length > 16 then ([], 23) else (L, 0)
set_option maxHeartbeats 4000000 in
set_option maxRecDepth 100000 in
theorem quant_listed.calls (b n : Nat) (D : DataW Unit) (L : List S57) (r1 : List S57) (r2 : Int) (w : World) (hown : w.ownsMap Tryz.prog 9 (plainElem (H := Unit) Tryz.prog 2) b n D) (hT : Tells D L) (h : quant_listed.f L = (r1, r2)) :
    Calls Tryz.prog 74 #[.map (some b)] w fun e w' => ∃ v0_ : Value, e = .returned (.tuple #[v0_, .int .i64 r2]) ∧ Kd.R k57 57 w' w.heap.size (fun _ => True) v0_ r1 ∧ Below w.heap.size w w' := by
  have hu57 := Tryz.underlying57
  have HT := Lib.hid hT
  have HOWN := Aside0.mk hown
  have hsize := hT.size
  unfold quant_listed.f at h
  by_cases h16 : L.length > 16
  · rw [if_pos h16] at h
    obtain ⟨rfl, rfl⟩ := Prod.mk.inj h
    clear hT hown h
    have hlt : decide ((Maps.size D : Int) > 16) = true := by rw [hsize]; simp; omega
    have HLT := Lib.hid hlt
    clear hlt
    go_enter Tryz.func74, Tryz.ntmps74
    go_wp2_with (first | (at_len; refine wpList_len_own _ rfl _ 98 rfl 9 2 Tryz.underlying98 _ b n D rfl HOWN.out ?_))
    go_ret2
    exact ⟨_, rfl, Kd.R_nil _ _ _ _ _, Below.refl _ _⟩
  · rw [if_neg h16] at h
    obtain ⟨rfl, rfl⟩ := Prod.mk.inj h
    have hb := hown.lt
    have hgt : ¬ ((Maps.size D : Int) > 16) := by rw [hsize]; omega
    clear hT hown h
    go_enter Tryz.func74, Tryz.ntmps74
    go_wp2_with (first
      | (at_len; refine wpList_len_own _ rfl _ 98 rfl 9 2 Tryz.underlying98 _ b n D rfl HOWN.out ?_)
      | (at_range; refine wpList_range_own _ rfl _ 98 rfl 9 2 law9 Tryz.underlying98 _ b n D rfl HOWN.out ?_; intro w0 hrg0 hg0 hs0)
      | go_in)
    have hbl0 : Below w.heap.size w w0 := ⟨hg0.os, hg0.tape, hg0.output, hg0.size, fun k hk => hg0.block k hk (by simp)⟩
    have HB0 := Aside0.mk hbl0
    clear hg0 hbl0
    have hsD : Maps.size D ≤ 16 := by omega
    go_loopg [4, 5, 6] (Maps.size D) (fun g v4 v5 v6 wr => ∃ (left : Lit → Bool) (cnt : Nat) (xs : List S57), Aside0 (wr.ranges Tryz.prog 9 (plainElem (H := Unit) Tryz.prog 2) b w.heap.size n D left cnt) ∧ cnt ≤ g ∧ xs.length + cnt ≤ Maps.size D ∧ Aside0 (Gathered xs D left) ∧ Aside0 (Kd.R k57 57 wr w.heap.size (fun k => k ≠ w.heap.size ∧ k ≠ b) v4 xs) ∧ Aside0 (Below w.heap.size w wr))
    case atStart => exact ⟨_, _, [], ⟨hrg0⟩, by omega, by simp, ⟨gathered_start D⟩, ⟨Kd.R_nil _ _ _ _ _⟩, HB0⟩
    case round =>
      clear HB0 hrg0 hs0
      obtain ⟨left, cnt, xs, HRG, hcg, hxc, HGA, HR, HB⟩ := hrel
      go_wp2_with (first
        | (at_next; refine wpList_next_ranges _ rfl _ rfl 9 law9 (plainElem (H := Unit) Tryz.prog 2) Value.string (Value.int .i64) inv9 inv2 b w.heap.size n D left cnt rfl HRG.out ?_ ?_)
        | go_in)
      · intro hc0 hl0
        have hperm := gathered_perm HGA.out HT.out hl0
        have hLs : L.length ≤ 16 := by omega
        have HSORT := Lib.hid (sort_row HR.out hperm HT.out.rises hLs)
        go_wp2_with (go_at_call 95; refine HSORT.out.mono ?_; rintro e w4 ⟨rfl, ho4, hg4⟩; have HO4 := Aside0.mk ho4; have HG4 := Aside0.mk hg4; clear ho4 hg4)
        go_ret2
        exact ⟨_, rfl, Kd.R_mono HO4.out (fun _ _ => trivial), HB.out.grown HG4.out HB.out.size (fun j hj => own_base HR.out.2.choose_spec.1 j hj)⟩
      · intro x c kl yd yp w1 cnt1 hkey hlk hv hat hrg1 hlt hg1 hs1 hen
        obtain rfl := key9 hkey
        rw [show yd = _ from elem2 hv] at hat
        have HGA1 := Lib.hid (gathered_step HGA.out ⟨x, c⟩ hlk hat)
        have hbr := HRG.out.ne
        have HR1 := Aside0.mk (Kd.R_grown HR.out hg1 (fun k hk e => hk.1 (by injection e)))
        have HB1 := Aside0.mk (HB.out.grown hg1 HB.out.size (fun j hj => by cases hj; exact Nat.le_refl _))
        have HRG1 := Aside0.mk hrg1
        have hszb := HRG.out.lt
        have hbs := HB.out.size
        have HS1 := Lib.hid hs1
        obtain ⟨g, rfl⟩ : ∃ g, gk = g + 1 := ⟨gk - 1, by omega⟩
        clear hkey hlk hv hat hrg1 hg1 hs1
        go_wp2_with (first
          | ((with_reducible refine gate_builtin (b := .append) (xs := #[.tmp 17, .tmp 21]) rfl ?_); at_builtin; refine Kd.R_append k57 (w0 := w) w.heap.size rfl (.tmp 17) (.tmp 21) 46 57 (.agg #[(.string ⟨#[]⟩), (.int .i64 0)]) 24 rfl Tryz.underlying46 info57 rfl (by decide) (by omega) u4 xs ⟨x, c⟩ [.string x, .int .i64 c] (fun k => k ≠ w.heap.size ∧ k ≠ b) (fun _ => False) rfl rfl ?aP (fun _ hk => hk.elim) ?aF ?aO ?aB ?aS ?aL ?_; (case aP => exact k57_mkM _ _ _ ⟨x, c⟩); (case aB => exact HB1.out); (case aF => exact (fun k hk => by have := HS1.out; constructor <;> omega)); (case aO => exact HR1.out); (case aS => exact HB1.out.size); (case aL => omega);
                intro v2 w2 ho hb2 hg2 hat2; have HO2 := Aside0.mk ho; have HB2 := Aside0.mk hb2; clear ho hb2)
          | go_in)
        have HRG2 := Aside0.mk (HRG1.out.kept hg2 (fun e => (HR1.out.1 b e.symm).2 rfl) (fun e => (HR1.out.1 _ e.symm).1 rfl))
        go_roundg g
        case measure => omega
        case rel => exact ⟨_, cnt1, xs ++ [⟨x, c⟩], HRG2, by omega, by simp; omega, ⟨HGA1.out⟩, HO2, HB2⟩
end Go.Proofs.YtejgbdclhlolkaaGreatDoor.Q
namespace Go.Proofs.YtejgbdclhlolkaaGreatDoor.Q
open Go.RowKit Go.Lib Go.WideMaps Go.Maps Go.Proofs.YtejgbdclhlolkaaGreatDoorW.PrintWords Go.Proofs.YtejgbdclhlolkaaGreatDoorW.PrintLast
set_option linter.unusedVariables false
set_option linter.unusedSimpArgs false
def nless (x y : ByteArray) : Bool := Op.bytesLess x.data.toList y.data.toList
theorem nless_irrefl (x : ByteArray) : nless x x = false := less_irrefl _
theorem nless_trans {x y z : ByteArray} (h : nless x y = true) (k : nless y z = true) : nless x z = true := less_trans _ _ _ h k
theorem nless_total {x y : ByteArray} (h : nless y x = false) (hne : x ≠ y) : nless x y = true := by
  unfold nless at *
  have t := less_total x.data.toList y.data.toList
  rw [h, Bool.not_false, Bool.or_eq_true] at t
  rcases t with t | t
  · exact t
  · exact absurd (ba_ext (by simpa using t)) hne
def valOf : List S57 → ByteArray → Int
  | [], _ => 0
  | a :: l, x => if a.f0 = x then a.f1 else valOf l x
def insS : List S57 → ByteArray → Int → List S57
  | [], x, v => [⟨x, v⟩]
  | a :: l, x, v => if a.f0 = x then ⟨x, v⟩ :: l else if nless x a.f0 = true then ⟨x, v⟩ :: a :: l else a :: insS l x v
theorem rises_cons {a : S57} {l : List S57} : Rises (a :: l) ↔ (∀ y ∈ l, nless a.f0 y.f0 = true) ∧ Rises l := List.pairwise_cons
theorem mem_ins {x : ByteArray} {v : Int} {y : S57} : ∀ {L : List S57}, Rises L → (y ∈ insS L x v ↔ y = ⟨x, v⟩ ∨ (y ∈ L ∧ y.f0 ≠ x))
  | [], _ => by simp [insS]
  | a :: l, h => by
    obtain ⟨h1, h2⟩ := rises_cons.1 h
    unfold insS
    by_cases e : a.f0 = x
    · rw [if_pos e]
      subst e
      simp only [List.mem_cons]
      constructor
      · rintro (h3 | h3)
        · exact .inl h3
        · exact .inr ⟨.inr h3, fun e => by have := h1 y h3; rw [e, nless_irrefl] at this; cases this⟩
      · rintro (h3 | ⟨h3 | h3, h4⟩)
        · exact .inl h3
        · rw [h3] at h4; exact absurd rfl h4
        · exact .inr h3
    · rw [if_neg e]
      by_cases hl : nless x a.f0 = true
      · rw [if_pos hl]
        simp only [List.mem_cons]
        constructor
        · rintro (h3 | h3 | h3)
          · exact .inl h3
          · exact .inr ⟨.inl h3, fun e' => e (by rw [← h3]; exact e')⟩
          · exact .inr ⟨.inr h3, fun e' => by have := nless_trans hl (h1 y h3); rw [e', nless_irrefl] at this; cases this⟩
        · rintro (h3 | ⟨h3 | h3, h4⟩)
          · exact .inl h3
          · exact .inr (.inl h3)
          · exact .inr (.inr h3)
      · rw [if_neg hl]
        simp only [List.mem_cons, mem_ins (x := x) (v := v) (y := y) h2]
        constructor
        · rintro (h3 | h3 | ⟨h3, h4⟩)
          · exact .inr ⟨.inl h3, fun e' => e (by rw [← h3]; exact e')⟩
          · exact .inl h3
          · exact .inr ⟨.inr h3, h4⟩
        · rintro (h3 | ⟨h3 | h3, h4⟩)
          · exact .inr (.inl h3)
          · exact .inl h3
          · exact .inr (.inr ⟨h3, h4⟩)
theorem rises_ins {x : ByteArray} {v : Int} : ∀ {L : List S57}, Rises L → Rises (insS L x v)
  | [], _ => by simp [insS, Rises]
  | a :: l, h => by
    obtain ⟨h1, h2⟩ := rises_cons.1 h
    unfold insS
    by_cases e : a.f0 = x
    · rw [if_pos e]
      exact rises_cons.2 ⟨fun y hy => by show nless x y.f0 = true; rw [← e]; exact h1 y hy, h2⟩
    · rw [if_neg e]
      by_cases hl : nless x a.f0 = true
      · rw [if_pos hl]
        refine rises_cons.2 ⟨fun y hy => ?_, h⟩
        rcases List.mem_cons.1 hy with h3 | h3
        · rw [h3]; exact hl
        · exact nless_trans hl (h1 y h3)
      · rw [if_neg hl]
        refine rises_cons.2 ⟨fun y hy => ?_, rises_ins h2⟩
        rcases (mem_ins h2).1 hy with h3 | ⟨h3, _⟩
        · rw [h3]
          exact nless_total (by simpa using hl) e
        · exact h1 y h3
def named (L : List S57) (x : ByteArray) : Bool := L.any fun y => decide (y.f0 = x)
theorem length_ins {x : ByteArray} {v : Int} : ∀ {L : List S57}, Rises L → (insS L x v).length = if named L x = true then L.length else L.length + 1
  | [], _ => by simp [insS, named]
  | a :: l, h => by
    obtain ⟨h1, h2⟩ := rises_cons.1 h
    unfold insS
    by_cases e : a.f0 = x
    · rw [if_pos e, if_pos (by simp [named, e])]
      simp
    · rw [if_neg e]
      by_cases hl : nless x a.f0 = true
      · rw [if_pos hl, if_neg]
        · simp
        · simp only [named, List.any_eq_true, List.mem_cons, decide_eq_true_eq]
          rintro ⟨y, h3 | h3, h4⟩
          · rw [h3] at h4; exact e h4
          · have := nless_trans hl (h1 y h3); rw [h4, nless_irrefl] at this; cases this
      · rw [if_neg hl, List.length_cons, length_ins h2]
        have hn : named (a :: l) x = named l x := by simp [named, e]
        rw [hn]
        split <;> simp
theorem val_mem {y : S57} : ∀ {L : List S57}, Rises L → y ∈ L → valOf L y.f0 = y.f1
  | [], _, hy => by simp at hy
  | a :: l, h, hy => by
    obtain ⟨h1, h2⟩ := rises_cons.1 h
    unfold valOf
    rcases List.mem_cons.1 hy with h3 | h3
    · rw [h3, if_pos rfl]
    · rw [if_neg (fun e => by have := h1 y h3; rw [e, nless_irrefl] at this; cases this), val_mem h2 h3]
theorem val_none {x : ByteArray} : ∀ {L : List S57}, (∀ y ∈ L, y.f0 ≠ x) → valOf L x = 0
  | [], _ => rfl
  | a :: l, h => by
    unfold valOf
    rw [if_neg (h a (by simp)), val_none (fun y hy => h y (by simp [hy]))]
theorem keyL_inj {y : S57} {s : ByteArray} (h : keyL y = .string s.data.toList) : y.f0 = s := by
  unfold keyL at h
  injection h with h
  exact ba_ext h
theorem tells_nil : Tells (.map []) [] := ⟨tidy_empty, List.Pairwise.nil, rfl, by simp, fun s h => by simp [Maps.has] at h⟩
theorem Tells.named {D : DataW Unit} {L : List S57} (h : Tells D L) (x : ByteArray) : Maps.has D (.string x.data.toList) = named L x := by
  cases hn : Q.named L x with
  | true =>
    simp only [Q.named, List.any_eq_true, decide_eq_true_eq] at hn
    obtain ⟨y, hy, rfl⟩ := hn
    exact Maps.has_true_of_atKey (h.here y hy)
  | false =>
    cases hh : Maps.has D (.string x.data.toList) with
    | false => rfl
    | true =>
      obtain ⟨y, hy, e⟩ := List.mem_map.1 (h.all _ hh)
      have := keyL_inj e
      simp only [Q.named, List.any_eq_false, decide_eq_true_eq] at hn
      exact absurd this (hn y hy)
theorem Tells.at {D : DataW Unit} {L : List S57} (h : Tells D L) (x : ByteArray) : D.atKey (.string x.data.toList) (.lit (.int .i64 0)) = .lit (.int .i64 (valOf L x)) := by
  cases hn : Q.named L x with
  | true =>
    simp only [Q.named, List.any_eq_true, decide_eq_true_eq] at hn
    obtain ⟨y, hy, rfl⟩ := hn
    rw [val_mem h.rises hy]
    exact h.here y hy _
  | false =>
    have h1 := h.named x
    rw [hn] at h1
    rw [atKey_of_not_has h1, val_none]
    intro y hy e
    simp only [Q.named, List.any_eq_false, decide_eq_true_eq] at hn
    exact hn y hy e
theorem Tells.put {D : DataW Unit} {L : List S57} (h : Tells D L) (x : ByteArray) (v : Int) : Tells (D.put (.string x.data.toList) (.lit (.int .i64 v))) (insS L x v) := by
  refine ⟨h.tidy.put (by trivial) _, rises_ins h.rises, ?_, fun y hy z => ?_, fun s hs => ?_⟩
  · rw [size_put h.tidy, h.named x, length_ins h.rises, h.size]
  · rcases (mem_ins h.rises).1 hy with rfl | ⟨h1, h2⟩
    · exact atKey_put_same h.tidy.isMap (by trivial) _ z
    · rw [atKey_put_other (fun e => h2 (keyL_inj e))]
      exact h.here y h1 z
  · by_cases e : (Lit.string s) = .string x.data.toList
    · rw [e]
      exact List.mem_map.2 ⟨⟨x, v⟩, (mem_ins h.rises).2 (.inl rfl), rfl⟩
    · rw [has_put_other e] at hs
      obtain ⟨y, hy, he⟩ := List.mem_map.1 (h.all s hs)
      refine List.mem_map.2 ⟨y, (mem_ins h.rises).2 (.inr ⟨hy, fun e' => e ?_⟩), he⟩
      rw [← he]
      unfold keyL
      rw [e']
def addP (a v : Int) : Int × Int := if a < 0 ∨ v < 0 then (0, 1) else if a > wrap64 (9223372036854775807 - v) then (0, 7) else (wrap64 (a + v), 0)
theorem add_is (a v : Int) : quant_Add.f 1 a v = some (addP a v) := by
  unfold quant_Add.f addP quant_Add.j0
  by_cases h1 : a < 0
  · simp [h1]
  · by_cases h2 : v < 0
    · simp [h1, h2]
    · simp only [h1, h2, if_false, decide_false, Bool.false_eq_true, or_self]
      split <;> rfl
def sumGo : List S57 → List S57 → Except Int (List S57)
  | L, [] => .ok L
  | L, a :: r => if (addP (valOf L a.f0) a.f1).2 = 0 then sumGo (insS L a.f0 (addP (valOf L a.f0) a.f1).1) r else .error (addP (valOf L a.f0) a.f1).2
def quant_summed.f (ls : List (List S57)) : List S57 × Int :=
  match sumGo [] ls.flatten with
  | .error e => ([], e)
  | .ok L => quant_listed.f L
theorem zero2 (w : World) : (zeroValue 2).run Tryz.prog w = .ok (.int .i64 0) w := by kernel_rfl
theorem key48 {s : ByteArray} (h : s.size ≤ 48) : keyOf Tryz.prog 9 (.string s) = some (.string s.data.toList) := keyOf_string_mk Tryz.underlying9 (by unfold maxLen; omega)
theorem lookup2 (w : World) {ops : Array Oper} {rest : List Oper} {o : Oper} {a : Act} {Q : Exit → Act → World → Prop}
    (hg : o.guard = none) (m x : Operand) (hop : o.op = Op.lookup 98 m x false) (b n : Nat) (D : DataW Unit) (L : List S57) (hT : Tells D L)
    (hm : a.eval m = .map (some b)) (hown : w.ownsMap Tryz.prog 9 (plainElem (H := Unit) Tryz.prog 2) b n D) (s : ByteArray) (hs : s.size ≤ 48) (hx : a.eval x = .string s)
    (hK : wpList Tryz.prog ops Q rest (a.put o.dst (.int .i64 (valOf L s))) w) :
    wpList Tryz.prog ops Q (o :: rest) a w := by
  refine wpList_lookup_own_int w hg m x 98 hop 9 2 .i64 law9 Tryz.underlying98 Tryz.underlying2 (zero2 _) b n D hm hown _ _ hx (key48 hs) (fun c hc _ => ?_)
  rw [hT.at] at hc
  injection hc with h1
  injection h1 with _ h2
  subst h2
  exact hK
theorem own_drewN {w : World} {b n : Nat} {D : DataW Unit} (h : w.ownsMap Tryz.prog 9 (plainElem (H := Unit) Tryz.prog 2) b n D) (k : Nat) : (w.drewN k).ownsMap Tryz.prog 9 (plainElem (H := Unit) Tryz.prog 2) b n D := h
theorem ok_wf {a v s : Int} (h : addP a v = (s, 0)) : (Lit.int .i64 s).wf = true := by
  unfold addP at h
  split at h
  · cases h
  · split at h
    · cases h
    · obtain ⟨rfl, _⟩ := Prod.mk.inj h
      exact RowKit.wrap64_wf _
theorem flat_rest (ls : List (List S57)) (i : Nat) (h : i < ls.length) : (ls.drop i).flatten = rd_L3 ls (i : Int) ++ (ls.drop (i + 1)).flatten := by
  rw [List.drop_eq_getElem_cons h, List.flatten_cons]
  simp [rd_L3, List.getD_eq_getElem?_getD, h]
theorem item_rest (l : List S57) (j : Nat) (h : j < l.length) : l.drop j = rd_T57 l (j : Int) :: l.drop (j + 1) := by
  rw [List.drop_eq_getElem_cons h]
  simp [rd_T57, List.getD_eq_getElem?_getD, h]
set_option maxHeartbeats 8000000 in
set_option maxRecDepth 100000 in
theorem quant_summed.calls (A0 : Option Addr) (c0 : Nat) (ls : List (List S57)) (r1 : List S57) (r2 : Int) (w : World) (hr0 : Kd.C (Kd.slice 57 k57) w A0 ls.length ls) (hc0 : ls.length ≤ c0)
    (h48 : ∀ l ∈ ls, ∀ x ∈ l, x.f0.size ≤ 48) (hlen : ls.flatten.length ≤ 9223372036854775807) (h : quant_summed.f ls = (r1, r2)) :
    Calls Tryz.prog 72 #[.slice A0 ls.length c0] w fun e w' => ∃ v0_ : Value, e = .returned (.tuple #[v0_, .int .i64 r2]) ∧ Kd.R k57 57 w' w.heap.size (fun _ => True) v0_ r1 ∧ Below w.heap.size w w' := by
  have hu57 := Tryz.underlying57
  have hmm := @run_makeMap Tryz.prog
  have HR0 := Aside0.mk hr0
  have HC0 := Aside0.mk hc0
  have hll := hr0.2.1
  have HF := Lib.hid h
  have H48 := Lib.hid h48
  clear hr0 hc0 h h48
  obtain ⟨gm, hgm⟩ : ∃ gm, gm = w.heap.size := ⟨_, rfl⟩
  have HGM := Lib.hid hgm
  have HOWN0 := Aside0.mk (World.ownsMap_made w Tryz.prog 9 (plainElem (H := Unit) Tryz.prog 2))
  have HB0 := Aside0.mk ((Below.refl w.heap.size w).alloc (Nat.le_refl _) (.map #[] 0))
  go_enter Tryz.func72, Tryz.ntmps72
  go_wp2
  rw [← hgm] at HOWN0
  rw [← hgm]
  clear hgm
  go_loopg [6, 8, 9, 10, 14] ls.length (fun g v6 v8 v9 v10 v14 wr => ∃ (i n : Nat) (D : DataW Unit) (L : List S57), v14 = .int .i64 i ∧ i ≤ ls.length ∧ ls.length ≤ i + g ∧ n + (ls.drop i).flatten.length ≤ 9223372036854775807 ∧ Aside0 (wr.ownsMap Tryz.prog 9 (plainElem (H := Unit) Tryz.prog 2) gm n D) ∧ Aside0 (Tells D L) ∧ Aside0 (sumGo [] ls.flatten = sumGo L (ls.drop i).flatten) ∧ Aside0 (Below w.heap.size w wr))
  case atStart => exact ⟨0, 0, _, [], rfl, by omega, by omega, by simpa using hlen, HOWN0, ⟨tells_nil⟩, ⟨rfl⟩, HB0⟩
  case round =>
    clear HOWN0 HB0 hlen
    obtain ⟨i, n, D, L, rfl, hin, hig, hnt, hown, hT, hgo, hbw⟩ := hrel
    have HOWN := hown
    have HT := hT
    by_cases hlt : i < ls.length
    · cases gk with
      | zero => omega
      | succ g =>
        obtain ⟨ad, A1, c1, eA, hx0, hl1, hi1⟩ := at_L3 HR0.out (i : Int) (by omega) (by omega)
        cases eA
        rw [Int.toNat_natCast] at hx0
        replace hx0 := (hbw.out.cell (World.block_lt_of_cell? w _ hx0)).trans hx0
        have hfl := flat_rest ls i hlt
        rw [hfl, List.length_append] at hnt
        have HGO := Lib.hid (show sumGo [] ls.flatten = sumGo L (rd_L3 ls (i : Int) ++ (ls.drop (i + 1)).flatten) by rw [← hfl]; exact hgo.out)
        have H48i : Hid (∀ x ∈ rd_L3 ls (i : Int), x.f0.size ≤ 48) := Lib.hid (H48.out _ (by simp [rd_L3, List.getD_eq_getElem?_getD, hlt]))
        have HR1 := Aside0.mk hi1
        have HC1 := Aside0.mk hl1
        have hli := hi1.2.1
        clear hfl hgo hi1 hl1
        generalize rd_L3 ls (i : Int) = l at *
        obtain ⟨R, hR⟩ : ∃ R, R = (ls.drop (i + 1)).flatten := ⟨_, rfl⟩
        rw [← hR] at hnt HGO
        have HRR := Lib.hid hR
        clear hR hT hown
        rename Aside0 (Below w.heap.size w wr) => HBW
        go_wp2
        go_loopg [8, 9, 10, 20] l.length (fun g2 v8 v9 v10 v20 wq => ∃ (j m : Nat) (E : DataW Unit) (M : List S57), v20 = .int .i64 j ∧ j ≤ l.length ∧ l.length ≤ j + g2 ∧ m + (l.length - j + R.length) ≤ 9223372036854775807 ∧ Aside0 (wq.ownsMap Tryz.prog 9 (plainElem (H := Unit) Tryz.prog 2) gm m E) ∧ Aside0 (Tells E M) ∧ Aside0 (sumGo [] ls.flatten = sumGo M (l.drop j ++ R)) ∧ Aside0 (Below w.heap.size w wq))
        case atStart => exact ⟨0, n, D, L, rfl, by omega, by omega, by omega, HOWN, HT, ⟨HGO.out⟩, HBW⟩
        case round =>
          clear HOWN HT HGO
          obtain ⟨j, m, E, M, rfl, hjn, hjg, hmt, HOWN, HT, HGO, HBQ⟩ := hrel
          by_cases hjl : j < l.length
          · cases gk with
            | zero => omega
            | succ g2 =>
              obtain ⟨ad2, eA2, hy0, hy1⟩ := at_T57 HR1.out (j : Int) (by omega) (by omega)
              cases eA2
              rw [Int.toNat_natCast] at hy0 hy1
              replace hy0 := (HBQ.out.cell (World.block_lt_of_cell? w _ hy0)).trans hy0
              replace hy1 := (HBQ.out.cell (World.block_lt_of_cell? w _ hy1)).trans hy1
              have h48x := H48i.out (rd_T57 l (j : Int)) (by rw [rd_T57, Int.toNat_natCast, List.getD_eq_getElem?_getD, List.getElem?_eq_getElem hjl]; exact List.getElem_mem hjl)
              have HGO2 := Lib.hid (show sumGo [] ls.flatten = sumGo M (rd_T57 l (j : Int) :: (l.drop (j + 1) ++ R)) by rw [← List.cons_append, ← item_rest l j hjl]; exact HGO.out)
              clear HGO
              have hxe : (⟨(rd_T57 l (j : Int)).f0, (rd_T57 l (j : Int)).f1⟩ : S57) = rd_T57 l (j : Int) := rfl
              rw [← hxe] at HGO2
              generalize (rd_T57 l (j : Int)).f0 = xs at *
              generalize (rd_T57 l (j : Int)).f1 = xv at *
              clear hxe
              have HOWN2 := Aside0.mk (HOWN.out.alloc (.cells #[.string xs, .int .i64 xv] 57))
              have HBQ2 := Aside0.mk (HBQ.out.alloc HBQ.out.size (.cells #[.string xs, .int .i64 xv] 57))
              obtain ⟨s, er, hse⟩ : ∃ s er, addP (valOf M xs) xv = (s, er) := ⟨_, _, rfl⟩
              have HADD := Lib.hid (show quant_Add.f 1 (valOf M xs) xv = some (s, er) by rw [add_is, hse])
              have HSE := Lib.hid hse
              clear hse
              by_cases her : er = 0
              · subst her
                have HGO3 := Lib.hid (show sumGo [] ls.flatten = sumGo (insS M xs s) (l.drop (j + 1) ++ R) by rw [HGO2.out, sumGo]; simp only [HSE.out, if_true])
                have HT3 := Aside0.mk (HT.out.put xs s)
                clear HGO2
                go_wp2_with (first
                  | (at_lookup; refine lookup2 _ rfl _ _ rfl gm m E M HT.out rfl HOWN2.out xs h48x rfl ?_)
                  | (go_at_call 26; refine (quant_Add.calls 1 (valOf M xs) xv s 0 _ HADD.out).mono ?_; rintro e w4 ⟨rfl, ⟨nd, rfl⟩⟩; have HOWN4 := Aside0.mk (own_drewN HOWN2.out nd))
                  | (at_mapUpdate; refine wpList_mapUpdate_own _ rfl _ _ _ 98 rfl 9 2 law9 Tryz.underlying98 _ gm m E rfl HOWN4.out (by unfold maxLen; omega) _ _ _ rfl rfl (key48 h48x) _ [] (plainElem_int Tryz.underlying2 (ok_wf HSE.out)) ?_; intro w5 hown5 hgrow5)
                  | go_in)
                have HB5 := Aside0.mk ((pw_below_drewN HBQ2.out nd).grown hgrow5 HBQ2.out.size (fun k hk => by cases hk; rw [HGM.out]; exact Nat.le_refl _))
                have HOWN5 := Aside0.mk hown5
                clear hown5 hgrow5
                go_roundg g2
                case measure => omega
                case rel => exact ⟨j + 1, m + 1, _, _, by go_num, by omega, by omega, by omega, HOWN5, HT3, ⟨HGO3.out⟩, HB5⟩
              · have HRES := Lib.hid (show ([], er) = (r1, r2) by
                  have h1 := HF.out
                  unfold quant_summed.f at h1
                  rw [HGO2.out, sumGo] at h1
                  simp only [HSE.out, if_neg her] at h1
                  exact h1)
                have hrr := HRES.out
                obtain ⟨e1, e2⟩ := Prod.mk.inj hrr
                have HR1E := Lib.hid e1
                have HR2E := Lib.hid e2
                clear hrr e1 e2 HGO2
                have hne : (er != 0) = true := bne_iff_ne.2 her
                go_wp2_with (first
                  | (at_lookup; refine lookup2 _ rfl _ _ rfl gm m E M HT.out rfl HOWN2.out xs h48x rfl ?_)
                  | (go_at_call 26; refine (quant_Add.calls 1 (valOf M xs) xv s er _ HADD.out).mono ?_; rintro e w4 ⟨rfl, ⟨nd, rfl⟩⟩)
                  | go_in)
                go_ret2
                refine ⟨.slice none 0 0, ?_, by rw [← HR1E.out]; exact Kd.R_nil _ _ _ _ _, pw_below_drewN HBQ2.out nd⟩
                rw [← HR2E.out]
                rfl
          · obtain rfl : j = l.length := by omega
            have HGO2 := Lib.hid (show sumGo [] ls.flatten = sumGo M (ls.drop (i + 1)).flatten by rw [HGO.out, List.drop_length, List.nil_append, HRR.out])
            clear HGO
            go_wp2
            go_roundg g
            case measure => omega
            case rel => exact ⟨i + 1, m, E, M, by go_num, by omega, by omega, by rw [← HRR.out]; omega, HOWN, HT, ⟨HGO2.out⟩, HBQ⟩
    · obtain rfl : i = ls.length := by omega
      have hgo2 := hgo.out
      rw [List.drop_length, List.flatten_nil, sumGo] at hgo2
      have HQ := Lib.hid (show quant_listed.f L = (r1, r2) by have := HF.out; unfold quant_summed.f at this; rw [hgo2] at this; exact this)
      clear hgo2 hgo
      go_wp2_with (go_at_call 74; refine (quant_listed.calls gm n D L r1 r2 _ hown.out hT.out HQ.out).mono ?_; rintro e w4 ⟨v4, rfl, ho4, hb4⟩; have HO4 := Aside0.mk (Kd.R_lower ho4 hbw.out.size); have HB4 := Aside0.mk (below_step hbw.out hb4); clear ho4 hb4)
      go_ret2
      exact ⟨_, rfl, HO4.out, HB4.out⟩
end Go.Proofs.YtejgbdclhlolkaaGreatDoor.Q
namespace Go.Proofs.YtejgbdclhlolkaaGreatDoor.Q
open Go.RowKit Go.Lib Go.Proofs.YtejgbdclhlolkaaGreatDoorW.PrintWords Go.Proofs.YtejgbdclhlolkaaGreatDoorW.PrintLast
set_option linter.unusedVariables false
set_option linter.unusedSimpArgs false
def sumOK (ls : List (List S57)) : Bool := (ls.all fun l => l.all fun x => decide (x.f0.size ≤ 48)) && decide (ls.flatten.length ≤ 9223372036854775807)
theorem sumOK_names {ls : List (List S57)} (h : sumOK ls = true) : ∀ l ∈ ls, ∀ x ∈ l, x.f0.size ≤ 48 := by
  unfold sumOK at h
  simp only [Bool.and_eq_true, List.all_eq_true, decide_eq_true_eq] at h
  exact h.1
theorem sumOK_len {ls : List (List S57)} (h : sumOK ls = true) : ls.flatten.length ≤ 9223372036854775807 := by
  unfold sumOK at h
  simp only [Bool.and_eq_true, decide_eq_true_eq] at h
  exact h.2
theorem rows2_C {w : World} {A0 A1 : Option Addr} {c0 c1 : Nat} {l0 l1 : List S57} (h0 : Kd.C k57 w A0 l0.length l0) (hc0 : l0.length ≤ c0) (h1 : Kd.C k57 w A1 l1.length l1) (hc1 : l1.length ≤ c1) (e : TypeId) :
    Kd.C (Kd.slice 57 k57) (w.alloc (.cells #[.slice A0 l0.length c0, .slice A1 l1.length c1] e)) (some ⟨w.heap.size, 0, none⟩) [l0, l1].length [l0, l1] := by
  have hb : Below w.heap.size w (w.alloc (.cells #[.slice A0 l0.length c0, .slice A1 l1.length c1] e)) := (Below.refl _ _).alloc (Nat.le_refl _) _
  refine ⟨rfl, by simp, fun _ => ⟨_, rfl, fun j p hj => ?_⟩⟩
  match j, hj with
  | 0, hj =>
    obtain rfl := Option.some.inj hj
    refine ⟨[.slice A0 l0.length c0], rfl, ⟨A0, c0, rfl, hc0, Kd.C_below h0 hb⟩, fun i u hi => ?_⟩
    match i, hi with
    | 0, hi => obtain rfl := Option.some.inj hi; exact (World.cell?_alloc_new _ _ _ _).trans rfl
  | 1, hj =>
    obtain rfl := Option.some.inj hj
    refine ⟨[.slice A1 l1.length c1], rfl, ⟨A1, c1, rfl, hc1, Kd.C_below h1 hb⟩, fun i u hi => ?_⟩
    match i, hi with
    | 0, hi => obtain rfl := Option.some.inj hi; exact (World.cell?_alloc_new _ _ _ _).trans rfl
def quant_Plus.f (k : Nat) (l0 l1 : List S57) : Option (List S57 × Int) :=
  (quant_valid.f k l0 l1).bind fun t => if t = true then (if sumOK [l0, l1] = true then some (quant_summed.f [l0, l1]) else none) else some ([], 31)
theorem quant_Plus.mono : ∀ a0 a1 k, LeO (quant_Plus.f k a0 a1) (quant_Plus.f (k + 1) a0 a1) := by
  intro a0 a1 k
  unfold quant_Plus.f
  exact LeO.bind (quant_valid.mono _ _ _) (fun _ => LeO.refl _)
set_option maxHeartbeats 4000000 in
set_option maxRecDepth 100000 in
theorem quant_Plus.calls (k : Nat) (A0 : Option Addr) (c0 : Nat) (l0 : List S57) (A1 : Option Addr) (c1 : Nat) (l1 : List S57) (r1 : List S57) (r2 : Int) (w : World) (hr0 : Kd.C k57 w A0 l0.length l0) (hc0 : l0.length ≤ c0) (hr1 : Kd.C k57 w A1 l1.length l1) (hc1 : l1.length ≤ c1) (h : quant_Plus.f k l0 l1 = some (r1, r2)) (hG : Glob w) :
    Calls Tryz.prog 41 #[.slice A0 l0.length c0, .slice A1 l1.length c1] w fun e w' => ∃ v0_ : Value, e = .returned (.tuple #[v0_, .int .i64 r2]) ∧ Kd.R k57 57 w' w.heap.size (fun _ => True) v0_ r1 ∧ Below w.heap.size w w' := by
  unfold quant_Plus.f at h
  obtain ⟨t, ht, h2⟩ := Option.bind_eq_some_iff.mp h
  clear h
  rename _ => h
  have HV := Lib.hid (quant_valid.calls k A0 c0 l0 A1 c1 l1 t w hr0 hc0 hr1 hc1 ht hG)
  have HR0 := Aside0.mk hr0
  have HR1 := Aside0.mk hr1
  have HC0 := Aside0.mk hc0
  have HC1 := Aside0.mk hc1
  have hl0 := hr0.2.1
  have hl1 := hr1.2.1
  clear hr0 hr1 hc0 hc1 ht
  cases t with
  | false =>
    rw [if_neg Bool.false_ne_true] at h
    have h1 := Option.some.inj h
    obtain ⟨rfl, rfl⟩ := Prod.mk.inj h1
    clear h h1
    go_enter Tryz.func41, Tryz.ntmps41
    go_wp2_with (go_at_call 73; refine HV.out.mono ?_; rintro e w1 ⟨rfl, hb⟩; have HB := Aside0.mk hb; clear hb)
    go_ret2
    exact ⟨_, rfl, Kd.R_nil _ _ _ _ _, HB.out⟩
  | true =>
    rw [if_pos rfl] at h
    cases hok : sumOK [l0, l1] with
    | false => rw [hok, if_neg Bool.false_ne_true] at h; cases h
    | true =>
      rw [hok, if_pos rfl] at h
      have HS := Lib.hid (Option.some.inj h)
      have HOK := Lib.hid hok
      clear h hok
      go_enter Tryz.func41, Tryz.ntmps41
      go_wp2_with (first
        | (go_at_call 73; refine HV.out.mono ?_; rintro e w1 ⟨rfl, hb⟩; have HB := Aside0.mk hb; have HQ0 := Aside0.mk (Kd.C_below HR0.out hb); have HQ1 := Aside0.mk (Kd.C_below HR1.out hb); clear hb)
        | (go_at_call 72; go_loud (refine (quant_summed.calls (some ⟨w1.heap.size, 0, none⟩) 2 [l0, l1] r1 r2 _ (rows2_C HQ0.out HC0.out HQ1.out HC1.out _) (Nat.le_refl 2) (sumOK_names HOK.out) (sumOK_len HOK.out) HS.out).mono ?_); rintro e w2 ⟨v2, rfl, ho, hb2⟩; have HO := Aside0.mk (Kd.R_lower ho (HB.out.alloc HB.out.size _).size); have HB2 := Aside0.mk (below_step (HB.out.alloc HB.out.size _) hb2); clear ho hb2))
      go_ret2
      exact ⟨_, rfl, HO.out, HB2.out⟩
def normGo (k : Nat) : List S57 → Option Bool
  | [] => some true
  | a :: r => (quant_resource.f k a.f0).bind fun t => if t = true then (if a.f1 < 0 then some false else normGo k r) else some false
theorem normGo_mono (k : Nat) : ∀ l, LeO (normGo k l) (normGo (k + 1) l)
  | [] => LeO.refl _
  | a :: r => by
    unfold normGo
    exact LeO.bind (quant_resource.mono _ _) (fun _ => LeO.ite (LeO.ite (LeO.refl _) (normGo_mono k r)) (LeO.refl _))
def quant_Normal.f (k : Nat) (l0 : List S57) : Option (List S57 × Int) :=
  (normGo k l0).bind fun t => if t = true then (if sumOK [l0] = true then some (quant_summed.f [l0]) else none) else some ([], 31)
theorem quant_Normal.mono : ∀ a0 k, LeO (quant_Normal.f k a0) (quant_Normal.f (k + 1) a0) := by
  intro a0 k
  unfold quant_Normal.f
  exact LeO.bind (normGo_mono _ _) (fun _ => LeO.refl _)
end Go.Proofs.YtejgbdclhlolkaaGreatDoor.Q
namespace Go.Proofs.YtejgbdclhlolkaaGreatDoor.Q
open Go.RowKit Go.Proofs.YtejgbdclhlolkaaGreatDoorW.PrintWords Go.Proofs.YtejgbdclhlolkaaGreatDoorW.PrintLast Go.Proofs.YtejgbdclhlolkaaGreatDoorW.PrintMore
attribute [local go_sem] max2_int min2_int max_two min_two max_three min_three max_four min_four   -- for this text's walks alone
set_option linter.unusedVariables false
set_option linter.unusedSimpArgs false
attribute [local go_sem high] eqA57
def bursarlaw03_known.f (k : Nat)  : Option (Bool) := (quant_Parse.f k (⟨#[49, 46, 53, 75, 105]⟩ : ByteArray)).bind fun bt101 => ((quant_Parse.f k (⟨#[48, 46, 48, 48, 48, 49]⟩ : ByteArray)).bind fun bt103 => ((quant_Parse.f k (⟨#[49, 75]⟩ : ByteArray)).bind fun bt105 => ((quant_Plus.f k (([(⟨(⟨#[99, 112, 117]⟩ : ByteArray), 1⟩ : S57), (⟨(⟨#[109, 101, 109, 111, 114, 121]⟩ : ByteArray), 2⟩ : S57)] : List (S57))) (([(⟨(⟨#[109, 101, 109, 111, 114, 121]⟩ : ByteArray), 3⟩ : S57)] : List (S57)))).bind fun bt113 => (if bt101.1 = 1536000 then (if bt101.2 = 0 then (if bt103.1 = 1 then (if bt103.2 = 0 then (if bt105.2 = 30 then (if bt113.2 = 0 then (if (bt113.1.length : Int) = 2 then (if 1 < (bt113.1.length : Int) then (if ((((rd_T57 bt113.1 1).f0).toList) == ([109, 101, 109, 111, 114, 121] : List UInt8) && (((rd_T57 bt113.1 1).f1) == 5)) = true then ((quant_Print.f k 1024000).bind fun t118 => (if t118.toList = ([49, 75, 105] : List UInt8) then ((quant_Print.f k 500).bind fun t119 => (some (t119.toList == ([53, 48, 48, 109] : List UInt8)))) else (none))) else (none)) else (none)) else (none)) else (none)) else (none)) else (none)) else (none)) else (none)) else (none)))))
theorem bursarlaw03_known.mono : ∀ k, LeO (bursarlaw03_known.f k ) (bursarlaw03_known.f (k + 1) ) := by
 intro  k
 unfold bursarlaw03_known.f
 repeat' first
  |(with_reducible exact quant_Parse.mono _ _)
  |(with_reducible exact quant_Plus.mono _ _ _)
  |(with_reducible exact quant_Print.mono _ _)
  |(with_reducible exact LeO.refl _)
  |(with_reducible exact LeO.none _)
  |(with_reducible refine LeO.ite ?_ ?_)
  |(with_reducible refine LeO.bind ?_ (fun _ => ?_))
  |exact quant_Parse.mono _ _
  |exact quant_Plus.mono _ _ _
  |exact quant_Print.mono _ _
  |exact LeO.none _
  |refine LeO.ite ?_ ?_
  |refine LeO.bind ?_ (fun _ => ?_)
set_option maxHeartbeats 8000000 in
set_option maxRecDepth 100000 in
theorem bursarlaw03_known.calls (k : Nat)  (r : Bool) (w : World) (h : bursarlaw03_known.f k  = some r) (hG : Glob w) :
  Calls Tryz.prog 16 #[] w fun e w' => e = .returned (.bool r) ∧ Below w.heap.size w w':=by
 have hu57:=Tryz.underlying57
 have HB:=Aside0.mk (Below.refl w.heap.size w)
 have H : ((quant_Parse.f k (⟨#[49,46,53,75,105]⟩ : ByteArray)).bind fun bt101 => ((quant_Parse.f k (⟨#[48,46,48,48,48,49]⟩ : ByteArray)).bind fun bt103 => ((quant_Parse.f k (⟨#[49,75]⟩ : ByteArray)).bind fun bt105 => ((quant_Plus.f k (([(⟨(⟨#[99,112,117]⟩ : ByteArray),1⟩ : S57),(⟨(⟨#[109,101,109,111,114,121]⟩ : ByteArray),2⟩ : S57)] : List (S57))) (([(⟨(⟨#[109,101,109,111,114,121]⟩ : ByteArray),3⟩ : S57)] : List (S57)))).bind fun bt113 => (if bt101.1 = 1536000 then (if bt101.2 = 0 then (if bt103.1 = 1 then (if bt103.2 = 0 then (if bt105.2 = 30 then (if bt113.2 = 0 then (if (bt113.1.length : Int) = 2 then (if 1 < (bt113.1.length : Int) then (if ((((rd_T57 bt113.1 1).f0).toList) == ([109,101,109,111,114,121] : List UInt8) && (((rd_T57 bt113.1 1).f1) == 5)) = true then ((quant_Print.f k 1024000).bind fun t118 => (if t118.toList = ([49,75,105] : List UInt8) then ((quant_Print.f k 500).bind fun t119 => (some (t119.toList == ([53,48,48,109] : List UInt8)))) else (none))) else (none)) else (none)) else (none)) else (none)) else (none)) else (none)) else (none)) else (none)) else (none)))))) = some r:=h
 clear h
 replace H:=Option.bind_eq_some_iff.mp H
 obtain ⟨⟨t101,t102⟩,A10,H⟩:=H
 replace H : ((quant_Parse.f k (⟨#[48,46,48,48,48,49]⟩ : ByteArray)).bind fun bt103 => ((quant_Parse.f k (⟨#[49,75]⟩ : ByteArray)).bind fun bt105 => ((quant_Plus.f k (([(⟨(⟨#[99,112,117]⟩ : ByteArray),1⟩ : S57),(⟨(⟨#[109,101,109,111,114,121]⟩ : ByteArray),2⟩ : S57)] : List (S57))) (([(⟨(⟨#[109,101,109,111,114,121]⟩ : ByteArray),3⟩ : S57)] : List (S57)))).bind fun bt113 => (if t101 = 1536000 then (if t102 = 0 then (if bt103.1 = 1 then (if bt103.2 = 0 then (if bt105.2 = 30 then (if bt113.2 = 0 then (if (bt113.1.length : Int) = 2 then (if 1 < (bt113.1.length : Int) then (if ((((rd_T57 bt113.1 1).f0).toList) == ([109,101,109,111,114,121] : List UInt8) && (((rd_T57 bt113.1 1).f1) == 5)) = true then ((quant_Print.f k 1024000).bind fun t118 => (if t118.toList = ([49,75,105] : List UInt8) then ((quant_Print.f k 500).bind fun t119 => (some (t119.toList == ([53,48,48,109] : List UInt8)))) else (none))) else (none)) else (none)) else (none)) else (none)) else (none)) else (none)) else (none)) else (none)) else (none))))) = some r:=H
 have A1:=Aside0.mk A10
 clear A10
 replace H:=Option.bind_eq_some_iff.mp H
 obtain ⟨⟨t103,t104⟩,A20,H⟩:=H
 replace H : ((quant_Parse.f k (⟨#[49,75]⟩ : ByteArray)).bind fun bt105 => ((quant_Plus.f k (([(⟨(⟨#[99,112,117]⟩ : ByteArray),1⟩ : S57),(⟨(⟨#[109,101,109,111,114,121]⟩ : ByteArray),2⟩ : S57)] : List (S57))) (([(⟨(⟨#[109,101,109,111,114,121]⟩ : ByteArray),3⟩ : S57)] : List (S57)))).bind fun bt113 => (if t101 = 1536000 then (if t102 = 0 then (if t103 = 1 then (if t104 = 0 then (if bt105.2 = 30 then (if bt113.2 = 0 then (if (bt113.1.length : Int) = 2 then (if 1 < (bt113.1.length : Int) then (if ((((rd_T57 bt113.1 1).f0).toList) == ([109,101,109,111,114,121] : List UInt8) && (((rd_T57 bt113.1 1).f1) == 5)) = true then ((quant_Print.f k 1024000).bind fun t118 => (if t118.toList = ([49,75,105] : List UInt8) then ((quant_Print.f k 500).bind fun t119 => (some (t119.toList == ([53,48,48,109] : List UInt8)))) else (none))) else (none)) else (none)) else (none)) else (none)) else (none)) else (none)) else (none)) else (none)) else (none)))) = some r:=H
 have A2:=Aside0.mk A20
 clear A20
 replace H:=Option.bind_eq_some_iff.mp H
 obtain ⟨⟨t105,t106⟩,A30,H⟩:=H
 replace H : ((quant_Plus.f k (([(⟨(⟨#[99,112,117]⟩ : ByteArray),1⟩ : S57),(⟨(⟨#[109,101,109,111,114,121]⟩ : ByteArray),2⟩ : S57)] : List (S57))) (([(⟨(⟨#[109,101,109,111,114,121]⟩ : ByteArray),3⟩ : S57)] : List (S57)))).bind fun bt113 => (if t101 = 1536000 then (if t102 = 0 then (if t103 = 1 then (if t104 = 0 then (if t106 = 30 then (if bt113.2 = 0 then (if (bt113.1.length : Int) = 2 then (if 1 < (bt113.1.length : Int) then (if ((((rd_T57 bt113.1 1).f0).toList) == ([109,101,109,111,114,121] : List UInt8) && (((rd_T57 bt113.1 1).f1) == 5)) = true then ((quant_Print.f k 1024000).bind fun t118 => (if t118.toList = ([49,75,105] : List UInt8) then ((quant_Print.f k 500).bind fun t119 => (some (t119.toList == ([53,48,48,109] : List UInt8)))) else (none))) else (none)) else (none)) else (none)) else (none)) else (none)) else (none)) else (none)) else (none)) else (none))) = some r:=H
 have A3:=Aside0.mk A30
 clear A30
 obtain ⟨y107,hy107⟩ : ∃ y_ : List (S57),y_ = (([(⟨(⟨#[99,112,117]⟩ : ByteArray),1⟩ : S57),(⟨(⟨#[109,101,109,111,114,121]⟩ : ByteArray),2⟩ : S57)] : List (S57))):=⟨_,rfl⟩
 replace H : ((quant_Plus.f k y107 (([(⟨(⟨#[109,101,109,111,114,121]⟩ : ByteArray),3⟩ : S57)] : List (S57)))).bind fun bt113 => (if t101 = 1536000 then (if t102 = 0 then (if t103 = 1 then (if t104 = 0 then (if t106 = 30 then (if bt113.2 = 0 then (if (bt113.1.length : Int) = 2 then (if 1 < (bt113.1.length : Int) then (if ((((rd_T57 bt113.1 1).f0).toList) == ([109,101,109,111,114,121] : List UInt8) && (((rd_T57 bt113.1 1).f1) == 5)) = true then ((quant_Print.f k 1024000).bind fun t118 => (if t118.toList = ([49,75,105] : List UInt8) then ((quant_Print.f k 500).bind fun t119 => (some (t119.toList == ([53,48,48,109] : List UInt8)))) else (none))) else (none)) else (none)) else (none)) else (none)) else (none)) else (none)) else (none)) else (none)) else (none))) = some r:=by first|(rw [hy107];with_reducible exact H)|(have H2_:=(Option.bind_some _ _).symm.trans H;rw [hy107];with_reducible exact H2_)|(have H2_:=(Option.bind_some _ _).symm.trans H;with_reducible exact H2_)|with_reducible exact H|(rw [hy107];exact H)|exact H
 have Ny107:=Aside0.mk hy107
 clear hy107
 obtain ⟨y110,hy110⟩ : ∃ y_ : List (S57),y_ = (([(⟨(⟨#[109,101,109,111,114,121]⟩ : ByteArray),3⟩ : S57)] : List (S57))):=⟨_,rfl⟩
 replace H : ((quant_Plus.f k y107 y110).bind fun bt113 => (if t101 = 1536000 then (if t102 = 0 then (if t103 = 1 then (if t104 = 0 then (if t106 = 30 then (if bt113.2 = 0 then (if (bt113.1.length : Int) = 2 then (if 1 < (bt113.1.length : Int) then (if ((((rd_T57 bt113.1 1).f0).toList) == ([109,101,109,111,114,121] : List UInt8) && (((rd_T57 bt113.1 1).f1) == 5)) = true then ((quant_Print.f k 1024000).bind fun t118 => (if t118.toList = ([49,75,105] : List UInt8) then ((quant_Print.f k 500).bind fun t119 => (some (t119.toList == ([53,48,48,109] : List UInt8)))) else (none))) else (none)) else (none)) else (none)) else (none)) else (none)) else (none)) else (none)) else (none)) else (none))) = some r:=by first|(rw [hy110];with_reducible exact H)|(have H2_:=(Option.bind_some _ _).symm.trans H;rw [hy110];with_reducible exact H2_)|(have H2_:=(Option.bind_some _ _).symm.trans H;with_reducible exact H2_)|with_reducible exact H|(rw [hy110];exact H)|exact H
 have Ny110:=Aside0.mk hy110
 clear hy110
 replace H:=Option.bind_eq_some_iff.mp H
 obtain ⟨⟨t113,t114⟩,A40,H⟩:=H
 replace H : (if t101 = 1536000 then (if t102 = 0 then (if t103 = 1 then (if t104 = 0 then (if t106 = 30 then (if t114 = 0 then (if (t113.length : Int) = 2 then (if 1 < (t113.length : Int) then (if ((((rd_T57 t113 1).f0).toList) == ([109,101,109,111,114,121] : List UInt8) && (((rd_T57 t113 1).f1) == 5)) = true then ((quant_Print.f k 1024000).bind fun t118 => (if t118.toList = ([49,75,105] : List UInt8) then ((quant_Print.f k 500).bind fun t119 => (some (t119.toList == ([53,48,48,109] : List UInt8)))) else (none))) else (none)) else (none)) else (none)) else (none)) else (none)) else (none)) else (none)) else (none)) else (none)) = some r:=H
 have A4:=Aside0.mk A40
 clear A40
 by_cases c5 : t101 = 1536000
 rotate_left
 ·rw [if_neg c5] at H
  exact absurd H (by simp)
 rw [if_pos c5] at H
 have c5b0 : (t101 == 1536000) = true:=beq_iff_eq.mpr c5
 have c5b1 : (t101 != 1536000) = false:=bne_eq_false_iff_eq.mpr c5
 clear c5
 by_cases c6 : t102 = 0
 rotate_left
 ·rw [if_neg c6] at H
  exact absurd H (by simp)
 rw [if_pos c6] at H
 have c6b0 : (t102 == 0) = true:=beq_iff_eq.mpr c6
 have c6b1 : (t102 != 0) = false:=bne_eq_false_iff_eq.mpr c6
 clear c6
 by_cases c7 : t103 = 1
 rotate_left
 ·rw [if_neg c7] at H
  exact absurd H (by simp)
 rw [if_pos c7] at H
 have c7b0 : (t103 == 1) = true:=beq_iff_eq.mpr c7
 have c7b1 : (t103 != 1) = false:=bne_eq_false_iff_eq.mpr c7
 clear c7
 by_cases c8 : t104 = 0
 rotate_left
 ·rw [if_neg c8] at H
  exact absurd H (by simp)
 rw [if_pos c8] at H
 have c8b0 : (t104 == 0) = true:=beq_iff_eq.mpr c8
 have c8b1 : (t104 != 0) = false:=bne_eq_false_iff_eq.mpr c8
 clear c8
 by_cases c9 : t106 = 30
 rotate_left
 ·rw [if_neg c9] at H
  exact absurd H (by simp)
 rw [if_pos c9] at H
 have c9b0 : (t106 == 30) = true:=beq_iff_eq.mpr c9
 have c9b1 : (t106 != 30) = false:=bne_eq_false_iff_eq.mpr c9
 clear c9
 by_cases c10 : t114 = 0
 rotate_left
 ·rw [if_neg c10] at H
  exact absurd H (by simp)
 rw [if_pos c10] at H
 have c10b0 : (t114 == 0) = true:=beq_iff_eq.mpr c10
 have c10b1 : (t114 != 0) = false:=bne_eq_false_iff_eq.mpr c10
 clear c10
 by_cases c11 : (t113.length : Int) = 2
 rotate_left
 ·rw [if_neg c11] at H
  exact absurd H (by simp)
 rw [if_pos c11] at H
 have c11b0 : ((t113.length : Int) == 2) = true:=beq_iff_eq.mpr c11
 have c11b1 : ((t113.length : Int) != 2) = false:=bne_eq_false_iff_eq.mpr c11
 clear c11
 by_cases c12 : 1 < (t113.length : Int)
 rotate_left
 ·rw [if_neg c12] at H
  exact absurd H (by simp)
 rw [if_pos c12] at H
 have c12b0 : decide (1 < (t113.length : Int)) = true:=decide_eq_true c12
 have c12b1 : decide (1 < t113.length) = true:=decide_eq_true (by omega)
 clear c12
 by_cases c13 : ((((rd_T57 t113 1).f0).toList) == ([109,101,109,111,114,121] : List UInt8) && (((rd_T57 t113 1).f1) == 5)) = true
 rotate_left
 ·rw [if_neg c13] at H
  exact absurd H (by simp)
 rw [if_pos c13] at H
 have c13b0 : ((((rd_T57 t113 1).f0).toList) == ([109,101,109,111,114,121] : List UInt8) && (((rd_T57 t113 1).f1) == 5)) = true:=c13
 (try (have c13b1 : decide ((((rd_T57 t113 1).f0).toList) = ([109,101,109,111,114,121] : List UInt8) && (((rd_T57 t113 1).f1) == 5)) = true:=by simpa using c13))
 (try (have c13b2 : ((((rd_T57 t113 1).f0).toList) == ([109,101,109,111,114,121] : List UInt8) && (((rd_T57 t113 1).f1) == 5)) = true:=by simpa using c13))
 clear c13
 replace H:=Option.bind_eq_some_iff.mp H
 obtain ⟨t118,A140,H⟩:=H
 replace H : (if t118.toList = ([49,75,105] : List UInt8) then ((quant_Print.f k 500).bind fun t119 => (some (t119.toList == ([53,48,48,109] : List UInt8)))) else (none)) = some r:=H
 have A14:=Aside0.mk A140
 clear A140
 by_cases c15 : t118.toList = ([49,75,105] : List UInt8)
 rotate_left
 ·rw [if_neg c15] at H
  exact absurd H (by simp)
 rw [if_pos c15] at H
 have c15b0 : (t118.toList == ([49,75,105] : List UInt8)) = true:=beq_iff_eq.mpr c15
 have c15b1 : (t118.toList != ([49,75,105] : List UInt8)) = false:=bne_eq_false_iff_eq.mpr c15
 clear c15
 replace H:=Option.bind_eq_some_iff.mp H
 obtain ⟨t119,A160,H⟩:=H
 replace H : (some (t119.toList == ([53,48,48,109] : List UInt8))) = some r:=H
 have A16:=Aside0.mk A160
 clear A160
 obtain rfl:=Option.some.inj H
 go_enter Tryz.func16,Tryz.ntmps16
 go_wp2_with (first|((with_reducible refine gate_callee (f:=17) rfl ?_);refine goesL_ (some 10) rfl rfl Tryz.func17 (by kernel_rfl) rfl #[.string (⟨#[49,46,53,75,105]⟩ : ByteArray)] rfl (by (try simp only [List.map_toArray,List.map_cons,List.map_nil]);first|done|rfl|(simp only [List.length_drop,List.length_take];rfl)) ?_;(with_reducible refine (quant_Parse.calls k (⟨#[49,46,53,75,105]⟩ : ByteArray) t101 t102 _ A1.out (Glob.below hG (by repeat (first|(with_reducible first|exact HB.out|apply below_alloc|apply pw_below_drewN|apply below_drew1)|exact HB.out)))).mono ?_);rintro e w17 ⟨rfl,hb⟩;refine ⟨_,rfl,?_⟩;have n0_:=Aside0.mk (below_step (by repeat (first|(with_reducible first|exact HB.out|apply below_alloc|apply pw_below_drewN|apply below_drew1)|exact HB.out)) hb);clear HB;have HB:=n0_;clear n0_;(try clear hb);(try clear hb2);(try clear hk);(try clear hi))|((with_reducible refine gate_callee (f:=17) rfl ?_);refine goesL_ (some 14) rfl rfl Tryz.func17 (by kernel_rfl) rfl #[.string (⟨#[48,46,48,48,48,49]⟩ : ByteArray)] rfl (by (try simp only [List.map_toArray,List.map_cons,List.map_nil]);first|done|rfl|(simp only [List.length_drop,List.length_take];rfl)) ?_;(with_reducible refine (quant_Parse.calls k (⟨#[48,46,48,48,48,49]⟩ : ByteArray) t103 t104 _ A2.out (Glob.below hG (by repeat (first|(with_reducible first|exact HB.out|apply below_alloc|apply pw_below_drewN|apply below_drew1)|exact HB.out)))).mono ?_);rintro e w18 ⟨rfl,hb⟩;refine ⟨_,rfl,?_⟩;have n0_:=Aside0.mk (below_step (by repeat (first|(with_reducible first|exact HB.out|apply below_alloc|apply pw_below_drewN|apply below_drew1)|exact HB.out)) hb);clear HB;have HB:=n0_;clear n0_;(try clear hb);(try clear hb2);(try clear hk);(try clear hi))|((with_reducible refine gate_callee (f:=17) rfl ?_);refine goesL_ (some 18) rfl rfl Tryz.func17 (by kernel_rfl) rfl #[.string (⟨#[49,75]⟩ : ByteArray)] rfl (by (try simp only [List.map_toArray,List.map_cons,List.map_nil]);first|done|rfl|(simp only [List.length_drop,List.length_take];rfl)) ?_;(with_reducible refine (quant_Parse.calls k (⟨#[49,75]⟩ : ByteArray) t105 t106 _ A3.out (Glob.below hG (by repeat (first|(with_reducible first|exact HB.out|apply below_alloc|apply pw_below_drewN|apply below_drew1)|exact HB.out)))).mono ?_);rintro e w19 ⟨rfl,hb⟩;refine ⟨_,rfl,?_⟩;have n0_:=Aside0.mk (below_step (by repeat (first|(with_reducible first|exact HB.out|apply below_alloc|apply pw_below_drewN|apply below_drew1)|exact HB.out)) hb);clear HB;have HB:=n0_;clear n0_;(try clear hb);(try clear hb2);(try clear hk);(try clear hi))|((with_reducible refine gate_dst (N:=24) rfl ?_);(try (refine gate_guard (by rfl) ?_;dsimp only));refine Kd.R_lit k57 _ 57 ?hg (N:=24) ?hd (xs:=([(⟨(⟨#[99,112,117]⟩ : ByteArray),1⟩ : S57),(⟨(⟨#[109,101,109,111,114,121]⟩ : ByteArray),2⟩ : S57)] : List (S57))) (inner:=[.string (⟨#[99,112,117]⟩ : ByteArray),.int .i64 1,.string (⟨#[109,101,109,111,114,121]⟩ : ByteArray),.int .i64 2]) (ok:=fun _ => True) (okp:=fun _ => True) ?hr ?hp (fun _ hk => hk) trivial (Below.refl _ _) (Nat.le_refl _) (by simp) ?_;(case hd => rfl);(case hg => rfl);(case hr => first|(go_simp;done)|(go_simp;rfl));(case hp => exact (Reps.c2 (show Kd.M k57 _ _ _ (⟨(⟨#[99,112,117]⟩ : ByteArray),1⟩ : S57) [.string (⟨#[99,112,117]⟩ : ByteArray),.int .i64 1] from (k57_mkM _ _ _ (⟨(⟨#[99,112,117]⟩ : ByteArray),1⟩ : S57) )) (Reps.c2 (show Kd.M k57 _ _ _ (⟨(⟨#[109,101,109,111,114,121]⟩ : ByteArray),2⟩ : S57) [.string (⟨#[109,101,109,111,114,121]⟩ : ByteArray),.int .i64 2] from (k57_mkM _ _ _ (⟨(⟨#[109,101,109,111,114,121]⟩ : ByteArray),2⟩ : S57) )) (Reps.none _ _))));intro v108 w20 ho21 hb hg_ hnew_;clear hg_ hnew_;(first|rw [← Ny107.out] at ho21|(simp only [Int.reduceToNat] at ho21;rw [← Ny107.out] at ho21));have n0_:=Aside0.mk (Kd.R_lower ho21 (below_size (by repeat (first|(with_reducible first|exact HB.out|apply below_alloc|apply pw_below_drewN|apply below_drew1)|exact HB.out))));have n1_:=Aside0.mk (below_step (by repeat (first|(with_reducible first|exact HB.out|apply below_alloc|apply pw_below_drewN|apply below_drew1)|exact HB.out)) hb);clear HB;have HO109:=n0_;have HB:=n1_;clear n0_ n1_;clear hb ho21)|((with_reducible refine gate_dst (N:=26) rfl ?_);(try (refine gate_guard (by rfl) ?_;dsimp only));refine Kd.R_lit k57 _ 57 ?hg (N:=26) ?hd (xs:=([(⟨(⟨#[109,101,109,111,114,121]⟩ : ByteArray),3⟩ : S57)] : List (S57))) (inner:=[.string (⟨#[109,101,109,111,114,121]⟩ : ByteArray),.int .i64 3]) (ok:=fun _ => True) (okp:=fun _ => True) ?hr ?hp (fun _ hk => hk) trivial (Below.refl _ _) (Nat.le_refl _) (by simp) ?_;(case hd => rfl);(case hg => rfl);(case hr => first|(go_simp;done)|(go_simp;rfl));(case hp => exact (Reps.c2 (show Kd.M k57 _ _ _ (⟨(⟨#[109,101,109,111,114,121]⟩ : ByteArray),3⟩ : S57) [.string (⟨#[109,101,109,111,114,121]⟩ : ByteArray),.int .i64 3] from (k57_mkM _ _ _ (⟨(⟨#[109,101,109,111,114,121]⟩ : ByteArray),3⟩ : S57) )) (Reps.none _ _)));intro v111 w22 ho23 hb hg_ hnew_;clear hg_ hnew_;(first|rw [← Ny110.out] at ho23|(simp only [Int.reduceToNat] at ho23;rw [← Ny110.out] at ho23));have n0_:=Aside0.mk (Kd.R_elder' (by (with_reducible repeat (first|apply Kd.R_alloc|apply Kd.R_drewN|apply Kd.R_drew));exact HO109.out) (Kd.R_base ho23) hb);have n1_:=Aside0.mk (Kd.R_lower (Kd.R_new' ho23 (Kd.R_lt (by (with_reducible repeat (first|apply Kd.R_alloc|apply Kd.R_drewN|apply Kd.R_drew));exact HO109.out))) (below_size (by repeat (first|(with_reducible first|exact HB.out|apply below_alloc|apply pw_below_drewN|apply below_drew1)|exact HB.out))));have n2_:=Aside0.mk (below_step (by repeat (first|(with_reducible first|exact HB.out|apply below_alloc|apply pw_below_drewN|apply below_drew1)|exact HB.out)) hb);clear HO109;clear HB;have HO109:=n0_;have HO112:=n1_;have HB:=n2_;clear n0_ n1_ n2_;clear hb ho23;obtain ⟨Ao24,co24,eo24⟩:=Kd.R_slice HO109.out;subst eo24;obtain ⟨Ao25,co25,eo25⟩:=Kd.R_slice HO112.out;subst eo25)|((with_reducible refine gate_callee (f:=41) rfl ?_);refine goesL_ (some 27) rfl rfl Tryz.func41 (by kernel_rfl) rfl #[.slice Ao24 y107.length co24,.slice Ao25 y110.length co25] rfl (by (try simp only [List.map_toArray,List.map_cons,List.map_nil]);first|done|rfl|(simp only [List.length_drop,List.length_take];rfl)) ?_;(with_reducible refine (quant_Plus.calls k _ _ y107 _ _ y110 t113 t114 _ ?side1 ?side2 ?side3 ?side4 A4.out (Glob.below hG (by repeat (first|(with_reducible first|exact HB.out|apply below_alloc|apply pw_below_drewN|apply below_drew1)|exact HB.out)))).mono ?_);(case side1 => repeat (first|exact (Kd.R_reads' HO109.out).2.2|(with_reducible refine Kd.C_alloc ?_ _)|(with_reducible refine Kd.C_drewN ?_ _)|(with_reducible refine Kd.C_drew ?_)));(case side2 => exact (Kd.R_reads' HO109.out).2.1);(case side3 => repeat (first|exact (Kd.R_reads' HO112.out).2.2|(with_reducible refine Kd.C_alloc ?_ _)|(with_reducible refine Kd.C_drewN ?_ _)|(with_reducible refine Kd.C_drew ?_)));(case side4 => exact (Kd.R_reads' HO112.out).2.1);rintro e w26 ⟨v115,rfl,ho0,hb⟩;refine ⟨_,rfl,?_⟩;have n0_:=Aside0.mk (Kd.R_elder' (by (with_reducible repeat (first|apply Kd.R_alloc|apply Kd.R_drewN|apply Kd.R_drew));exact HO109.out) (Kd.R_base ho0) hb);have n1_:=Aside0.mk (Kd.R_elder' (by (with_reducible repeat (first|apply Kd.R_alloc|apply Kd.R_drewN|apply Kd.R_drew));exact HO112.out) (Kd.R_base ho0) hb);have n2_:=Aside0.mk (Kd.R_lower (Kd.R_new' (Kd.R_new' ho0 (Kd.R_lt (by (with_reducible repeat (first|apply Kd.R_alloc|apply Kd.R_drewN|apply Kd.R_drew));exact HO109.out))) (Kd.R_lt (by (with_reducible repeat (first|apply Kd.R_alloc|apply Kd.R_drewN|apply Kd.R_drew));exact HO112.out))) (below_size (by repeat (first|(with_reducible first|exact HB.out|apply below_alloc|apply pw_below_drewN|apply below_drew1)|exact HB.out))));have n3_:=Aside0.mk (below_step (by repeat (first|(with_reducible first|exact HB.out|apply below_alloc|apply pw_below_drewN|apply below_drew1)|exact HB.out)) hb);clear HO109;clear HO112;clear HB;have HO109:=n0_;have HO112:=n1_;have HO116:=n2_;have HB:=n3_;clear n0_ n1_ n2_ n3_;(try clear hb);(try clear hb2);(try clear hk);(try clear hi);(try clear ho0);obtain ⟨Ao27,co27,eo27⟩:=Kd.R_slice HO116.out;subst eo27;have p117 : 0 ≤ (1 : Int):=(by omega);have q117 : 1 < (t113.length : Int):=of_decide_eq_true (by first|(with_reducible assumption)|assumption);obtain ⟨ad117,e117,hx117_0,hx117_1⟩:=at_T57 (Kd.R_reads' HO116.out).2.2 1 p117 q117;cases e117;(try simp only [show (1 : Int).toNat = 1 from rfl,Nat.reduceMul,Nat.reduceEqDiff,Go.Addr.add,↓reduceIte] at hx117_0);(try simp only [show (1 : Int).toNat = 1 from rfl,Nat.reduceMul,Nat.reduceEqDiff,Go.Addr.add,↓reduceIte] at hx117_1);have qi117 : (1 < t113.length) = True:=eq_true (by omega);(try rw [show ((1 : Int)).toNat = 1 from rfl] at hx117_0);(try rw [show 1 * 2 = 2 from rfl] at hx117_0);(try rw [show ((1 : Int)).toNat = 1 from rfl] at hx117_1);(try rw [show 1 * 2 = 2 from rfl] at hx117_1);replace p117:=eq_true p117;replace q117:=eq_true q117)|(go_at_call 19;(with_reducible refine (quant_Print.calls k 1024000 t118 _ A14.out (Glob.below hG (by repeat (first|(with_reducible first|exact HB.out|apply below_alloc|apply pw_below_drewN|apply below_drew1)|exact HB.out)))).mono ?_);rintro e w28 ⟨rfl,hb⟩;have n0_:=Aside0.mk (Kd.R_below (by (with_reducible repeat (first|apply Kd.R_alloc|apply Kd.R_drewN|apply Kd.R_drew));exact HO109.out) hb);have n1_:=Aside0.mk (Kd.R_below (by (with_reducible repeat (first|apply Kd.R_alloc|apply Kd.R_drewN|apply Kd.R_drew));exact HO112.out) hb);have n2_:=Aside0.mk (Kd.R_below (by (with_reducible repeat (first|apply Kd.R_alloc|apply Kd.R_drewN|apply Kd.R_drew));exact HO116.out) hb);have n3_:=Aside0.mk (below_step (by repeat (first|(with_reducible first|exact HB.out|apply below_alloc|apply pw_below_drewN|apply below_drew1)|exact HB.out)) hb);clear HO109;clear HO112;clear HO116;clear HB;have HO109:=n0_;have HO112:=n1_;have HO116:=n2_;have HB:=n3_;clear n0_ n1_ n2_ n3_;(try clear hb);(try clear hb2);(try clear hk);(try clear hi))|(go_at_call 19;(with_reducible refine (quant_Print.calls k 500 t119 _ A16.out (Glob.below hG (by repeat (first|(with_reducible first|exact HB.out|apply below_alloc|apply pw_below_drewN|apply below_drew1)|exact HB.out)))).mono ?_);rintro e w29 ⟨rfl,hb⟩;have n0_:=Aside0.mk (Kd.R_below (by (with_reducible repeat (first|apply Kd.R_alloc|apply Kd.R_drewN|apply Kd.R_drew));exact HO109.out) hb);have n1_:=Aside0.mk (Kd.R_below (by (with_reducible repeat (first|apply Kd.R_alloc|apply Kd.R_drewN|apply Kd.R_drew));exact HO112.out) hb);have n2_:=Aside0.mk (Kd.R_below (by (with_reducible repeat (first|apply Kd.R_alloc|apply Kd.R_drewN|apply Kd.R_drew));exact HO116.out) hb);have n3_:=Aside0.mk (below_step (by repeat (first|(with_reducible first|exact HB.out|apply below_alloc|apply pw_below_drewN|apply below_drew1)|exact HB.out)) hb);clear HO109;clear HO112;clear HO116;clear HB;have HO109:=n0_;have HO112:=n1_;have HO116:=n2_;have HB:=n3_;clear n0_ n1_ n2_ n3_;(try clear hb);(try clear hb2);(try clear hk);(try clear hi)))
 go_ret
 exact ⟨by first|rfl|(simp [errW_none,errW_some] <;> rfl)|(simp [*,errW_none,errW_some] <;> rfl),by repeat (first|(with_reducible first|exact HB.out|apply below_alloc|apply pw_below_drewN|apply below_drew1)|exact HB.out)⟩
end Go.Proofs.YtejgbdclhlolkaaGreatDoor.Q
namespace Go.Proofs.YtejgbdclhlolkaaGreatDoor.Q
open Go.RowKit Go.Proofs.YtejgbdclhlolkaaGreatDoorW.PrintWords Go.Proofs.YtejgbdclhlolkaaGreatDoorW.PrintLast Go.Proofs.YtejgbdclhlolkaaGreatDoorW.PrintMore
attribute [local go_sem] max2_int min2_int max_two min_two max_three min_three max_four min_four   -- for this text's walks alone
set_option linter.unusedVariables false
set_option linter.unusedSimpArgs false
def bursarref03_digit.f (a0 : Int) : Option (Bool) := if a0 ≥ 48 then (some (decide (a0 ≤ 57))) else (some false)
set_option maxHeartbeats 8000000 in
set_option maxRecDepth 100000 in
theorem bursarref03_digit.calls (a0 : Int) (r : Bool) (w : World) (h : bursarref03_digit.f a0 = some r) :
  Calls Tryz.prog 58 #[.int .u8 a0] w fun e w' => e = .returned (.bool r) ∧ Drawn0 w w':=by
 have H : (if a0 ≥ 48 then (some (decide (a0 ≤ 57))) else (some false)) = some r:=h
 clear h
 by_cases c2 : a0 ≥ 48
 ·rw [if_pos c2] at H
  have c2b0 : decide (48 ≤ a0) = true:=decide_eq_true c2
  clear c2
  obtain rfl:=Option.some.inj H
  go_enter Tryz.func58,Tryz.ntmps58
  go_wp2
  go_ret
  exact ⟨by first|rfl|(simp;done)|(simp [*];done),by repeat (first|exact Drawn0.refl _|apply Drawn0.step)⟩
 ·rw [if_neg c2] at H
  have c2b0 : decide (48 ≤ a0) = false:=decide_eq_false c2
  clear c2
  obtain rfl:=Option.some.inj H
  go_enter Tryz.func58,Tryz.ntmps58
  go_wp2
  go_ret
  exact ⟨by first|rfl|(simp;done)|(simp [*];done),by repeat (first|exact Drawn0.refl _|apply Drawn0.step)⟩
end Go.Proofs.YtejgbdclhlolkaaGreatDoor.Q
namespace Go.Proofs.YtejgbdclhlolkaaGreatDoor.Q
open Go.RowKit Go.Proofs.YtejgbdclhlolkaaGreatDoorW.PrintWords Go.Proofs.YtejgbdclhlolkaaGreatDoorW.PrintLast Go.Proofs.YtejgbdclhlolkaaGreatDoorW.PrintMore
attribute [local go_sem] max2_int min2_int max_two min_two max_three min_three max_four min_four   -- for this text's walks alone
set_option linter.unusedVariables false
set_option linter.unusedSimpArgs false
def bursarref03_long.l0 : Nat → Int → List Int → Option (List Int)
|0,_,_ => none
|k + 1,x0,x3 => if x0 > 0 then (if x3.length < 17592186044416 then (bursarref03_long.l0 k (wrap64 (Int.tdiv x0 10)) (x3 ++ [Int.tmod x0 10])) else (none)) else (some x3)
def bursarref03_long.f (k : Nat) (a0 : Int) : Option (List Int) := bursarref03_long.l0 k a0 ([] : List Int)
theorem bursarref03_long.mono_l : ∀ k, (∀ y0 y1, LeO (bursarref03_long.l0 k y0 y1) (bursarref03_long.l0 (k + 1) y0 y1))
|0 => fun _ _ r h => by simp [bursarref03_long.l0] at h
|k + 1 => by
  have ih0:=bursarref03_long.mono_l k
  ·intro y0 y1
   unfold bursarref03_long.l0
   repeat' first
  |(with_reducible exact ih0 _ _)
  |(with_reducible exact LeO.refl _)
  |(with_reducible exact LeO.none _)
  |(with_reducible refine LeO.ite ?_ ?_)
  |(with_reducible refine LeO.bind ?_ (fun _ => ?_))
  |exact ih0 _ _
  |exact LeO.none _
  |refine LeO.ite ?_ ?_
  |refine LeO.bind ?_ (fun _ => ?_)
theorem bursarref03_long.mono : ∀ a0 k, LeO (bursarref03_long.f k a0) (bursarref03_long.f (k + 1) a0) := by
 intro a0 k
 have ih0:=bursarref03_long.mono_l k
 unfold bursarref03_long.f
 repeat' first
  |(with_reducible exact ih0 _ _)
  |(with_reducible exact LeO.refl _)
  |(with_reducible exact LeO.none _)
  |(with_reducible refine LeO.ite ?_ ?_)
  |(with_reducible refine LeO.bind ?_ (fun _ => ?_))
  |exact ih0 _ _
  |exact LeO.none _
  |refine LeO.ite ?_ ?_
  |refine LeO.bind ?_ (fun _ => ?_)
set_option maxHeartbeats 8000000 in
set_option maxRecDepth 100000 in
theorem bursarref03_long.calls (k : Nat) (a0 : Int) (r : List Int) (w : World) (h : bursarref03_long.f k a0 = some r) :
  Calls Tryz.prog 62 #[.int .i64 a0] w fun e w' => ∃ v0_ : Value,e = .returned (.agg #[v0_]) ∧ Kd.R (Kd.int .i64) 3 w' w.heap.size (fun _ => True) v0_ r ∧ Below w.heap.size w w':=by
 have hu85:=Tryz.underlying85
 have HB:=Aside0.mk (Below.refl w.heap.size w)
 have H : (bursarref03_long.l0 k a0 ([] : List Int)) = some r:=h
 clear h
 have H':=Aside0.mk H
 clear H
 go_enter Tryz.func62,Tryz.ntmps62
 go_wp2_with (first|((with_reducible refine gate_dst (N:=2) rfl ?_);refine box_event ?hg (N:=2) ?hd (cs:=#[.slice none 0 0]) (t:=85) ?hr ?_;(case hd => rfl);(case hg => rfl);(case hr => first|(go_simp;done)|(go_simp;rfl));intro gb120 hg w2 hbox hb;have n0_:=Aside0.mk (below_step (by repeat (first|(with_reducible first|exact HB.out|apply below_alloc|apply pw_below_drewN|apply below_drew1)|exact HB.out)) hb);have n1_:=Aside0.mk (hbox);have n2_:=Aside0.mk ((by rw [hg];exact (below_size (by repeat (first|(with_reducible first|exact HB.out|apply below_alloc|apply pw_below_drewN|apply below_drew1)|exact HB.out))) : w.heap.size ≤ gb120));have n3_:=Aside0.mk ((by rw [hg];exact (below_size (by repeat (first|(with_reducible first|exact HB.out|apply below_alloc|apply pw_below_drewN|apply below_drew1)|exact HB.out))) : w.heap.size ≤ gb120));clear HB;have HB:=n0_;have BK120:=n1_;have GW120:=n2_;have GE120:=n3_;clear n0_ n1_ n2_ n3_;clear hb hbox hg))
 go_loopg [0,3] k (fun kq v0 v3 w' => ∃ (x0_1 : Int) (x3_1 : List Int),v0 = .int .i64 x0_1 ∧ Aside0 (bursarref03_long.l0 kq x0_1 x3_1 = some r) ∧ Aside0 (kq ≤ k) ∧ Aside0 (Kd.R (Kd.int .i64) 3 w' w.heap.size (fun _ => True) v3 x3_1) ∧ Aside0 (w'.heap[gb120]? = some (.cells #[(.slice none 0 0)] 85 (0,0))) ∧ Aside0 (Below w.heap.size w w'))
 case atStart => exact ⟨(a0),(([] : List Int)),(by first|rfl|(simp;done)|(simp [*];done)|(simp;rw [Bool.eq_iff_iff];simp;done)|(rw [Bool.eq_iff_iff];simp;done)),H',⟨Nat.le_refl _⟩,⟨by first|exact Kd.R_nil _ _ _ _ _|exact Kd.N_nil _ _ _ _ _|exact Kd.V_nil _ _ _ _ _|exact Kd.Q_nil _ _ _ _ _|exact Kd.S_nil _ _ _ _ _⟩,⟨by (with_reducible repeat (first|refine blk_drewN ?_ _|refine blk_drew ?_|refine blk_alloc ?_ _));exact BK120.out⟩,⟨by repeat (first|(with_reducible first|exact HB.out|apply below_alloc|apply pw_below_drewN|apply below_drew1|refine below_set ?_ GE120.out)|exact HB.out)⟩⟩
 case round =>
  clear H';(try clear p2)
  obtain ⟨x0_1,x3_1,rfl,HA,HK1,HO_3,BK120,HB⟩:=hrel
  cases gk with
 |zero => exact absurd HA.out (by simp [bursarref03_long.l0])
 |succ k1 =>
   have H:=HA.out
   clear HA
   simp only [bursarref03_long.l0] at H
   by_cases c3 : x0_1 > 0
   rotate_left
   ·rw [if_neg c3] at H
    have c3b0 : decide (0 < x0_1) = false:=decide_eq_false c3
    clear c3
    obtain rfl:=Option.some.inj H
    obtain ⟨Ao6,co6,eo6⟩:=Kd.R_slice HO_3.out
    subst eo6
    have hcz7_0 : wr.cell? ⟨gb120,0,none⟩ = some (.slice none 0 0):=(blk_cell BK120.out 0).trans rfl
    have hfz7_0:=blk_frozen BK120.out 0
    go_wp2
    refine bodyPost_ret (results_cell_row rfl _ _ gb120 85 #[.slice Ao6 x3_1.length co6] (0,0) _ rfl (by (with_reducible repeat (first|refine blk_drewN ?_ _|refine blk_drew ?_|refine blk_alloc ?_ _));refine blk_put (cs:=#[.slice none 0 0]) ?_ 0 _ rfl;(with_reducible repeat (first|refine blk_drewN ?_ _|refine blk_drew ?_|refine blk_alloc ?_ _));exact BK120.out) Tryz.underlying85 rfl (by kernel_rfl)) rfl ?_
    exact ⟨_,by first|rfl|(simp [errW_none,errW_some] <;> rfl)|(simp [*,errW_none,errW_some] <;> rfl),by (with_reducible repeat (first|apply Kd.R_alloc|apply Kd.R_drewN|apply Kd.R_drew));exact Kd.R_mono (Kd.R_far (p:=⟨gb120,0,none⟩) (Kd.R_types HO_3.out BK120.out (by decide)) (fun _ hk => hk.2) (.slice Ao6 x3_1.length co6)) (fun _ hk => trivial),by repeat (first|(with_reducible first|exact HB.out|apply below_alloc|apply pw_below_drewN|apply below_drew1|refine below_set ?_ GE120.out)|exact HB.out)⟩
   rw [if_pos c3] at H
   have c3b0 : decide (0 < x0_1) = true:=decide_eq_true c3
   clear c3
   by_cases c4 : x3_1.length < 17592186044416
   rotate_left
   ·rw [if_neg c4] at H
    exact absurd H (by simp)
   rw [if_pos c4] at H
   have LMc4:=Aside0.mk c4
   clear c4
   obtain ⟨y121,hy121⟩ : ∃ y_ : List Int,y_ = (x3_1 ++ [Int.tmod x0_1 10]):=⟨_,rfl⟩
   replace H : (bursarref03_long.l0 k1 (wrap64 (Int.tdiv x0_1 10)) y121) = some r:=by first|(rw [hy121];with_reducible exact H)|(have H2_:=(Option.bind_some _ _).symm.trans H;rw [hy121];with_reducible exact H2_)|(have H2_:=(Option.bind_some _ _).symm.trans H;with_reducible exact H2_)|with_reducible exact H|(rw [hy121];exact H)|exact H
   have Ny121:=Aside0.mk hy121
   clear hy121
   have H':=Aside0.mk H
   clear H
   go_wp2_with (first|((with_reducible refine gate_builtin (b:=.append) (xs:=#[.tmp 6,.tmp 9]) rfl ?_);at_builtin;refine Kd.R_append (Kd.int .i64) (w0:=w) w.heap.size rfl (.tmp 6) (.tmp 9) 80 3 (.int .i64 0) 8 rfl Tryz.underlying80 info3 rfl (by decide) (by omega) u3 x3_1 (Int.tmod x0_1 10) [.int .i64 (Int.tmod x0_1 10)] (fun _ => True) (fun _ => False) rfl rfl ?aP (fun _ hk => hk.elim) ?aF ?aO ?aB ?aS ?aL ?_;(case aP => exact rfl);(case aB => exact (by repeat (first|(with_reducible first|exact HB.out|apply below_alloc|apply pw_below_drewN|apply below_drew1|refine below_set ?_ GE120.out)|exact HB.out)));(case aF => exact (fun _ _ => trivial));(case aO => exact (by (with_reducible repeat (first|apply Kd.R_alloc|apply Kd.R_drewN|apply Kd.R_drew));exact HO_3.out));(case aS => exact (below_size (by repeat (first|(with_reducible first|exact HB.out|apply below_alloc|apply pw_below_drewN|apply below_drew1|refine below_set ?_ GE120.out)|exact HB.out))));(case aL => have:=LMc4.out;omega);intro v122 w5 ho hb hg hat;rw [← Ny121.out] at ho;have n0_:=Aside0.mk (blk_grown (g:=gb120) (o:=.cells #[.slice none 0 0] 85 (0,0)) (by (with_reducible repeat (first|refine blk_drewN ?_ _|refine blk_drew ?_|refine blk_alloc ?_ _));exact BK120.out) hg (Kd.R_ne HO_3.out BK120.out (by decide)));have n1_:=Aside0.mk (hb);have n2_:=Aside0.mk (ho);clear BK120;clear HB;clear HO_3;have BK120:=n0_;have HB:=n1_;have HO123:=n2_;clear n0_ n1_ n2_;clear ho hb hg hat))
   go_roundg k1
   case measure => have:=HK1.out;omega
   case rel => exact ⟨(wrap64 (Int.tdiv x0_1 10)),(y121),(by first|rfl|(simp;done)|(simp [*];done)|(simp;rw [Bool.eq_iff_iff];simp;done)|(rw [Bool.eq_iff_iff];simp;done)),H',⟨by have:=HK1.out;omega⟩,⟨by (with_reducible repeat (first|apply Kd.R_alloc|apply Kd.R_drewN|apply Kd.R_drew));exact HO123.out⟩,⟨by (with_reducible repeat (first|refine blk_drewN ?_ _|refine blk_drew ?_|refine blk_alloc ?_ _));exact BK120.out⟩,⟨by repeat (first|(with_reducible first|exact HB.out|apply below_alloc|apply pw_below_drewN|apply below_drew1|refine below_set ?_ GE120.out)|exact HB.out)⟩⟩
end Go.Proofs.YtejgbdclhlolkaaGreatDoor.Q
namespace Go.Proofs.YtejgbdclhlolkaaGreatDoor.Q
open Go.RowKit Go.Proofs.YtejgbdclhlolkaaGreatDoorW.PrintWords Go.Proofs.YtejgbdclhlolkaaGreatDoorW.PrintLast Go.Proofs.YtejgbdclhlolkaaGreatDoorW.PrintMore
attribute [local go_sem] max2_int min2_int max_two min_two max_three min_three max_four min_four   -- for this text's walks alone
set_option linter.unusedVariables false
set_option linter.unusedSimpArgs false
def bursarref03_cut.l0 : Nat → List Int → Int → Option (List Int)
|0,_,_ => none
|k + 1,x0,x3 => if x3 > 0 then (if 0 ≤ (wrap64 (x3 - 1)) then (if (wrap64 (x3 - 1)) < (x0.length : Int) then (if (rd x0 (wrap64 (x3 - 1))) = 0 then (bursarref03_cut.l0 k x0 (wrap64 (x3 - 1))) else (if 0 ≤ x3 then (if x3 ≤ (x0.length : Int) then (some (x0.take (x3 : Int).toNat)) else (none)) else (none))) else (none)) else (none)) else (if 0 ≤ x3 then (if x3 ≤ (x0.length : Int) then (some (x0.take (x3 : Int).toNat)) else (none)) else (none))
def bursarref03_cut.f (k : Nat) (l0 : List Int) : Option (List Int) := bursarref03_cut.l0 k l0 (l0.length : Int)
theorem bursarref03_cut.mono_l : ∀ k, (∀ y0 y1, LeO (bursarref03_cut.l0 k y0 y1) (bursarref03_cut.l0 (k + 1) y0 y1))
|0 => fun _ _ r h => by simp [bursarref03_cut.l0] at h
|k + 1 => by
  have ih0:=bursarref03_cut.mono_l k
  ·intro y0 y1
   unfold bursarref03_cut.l0
   repeat' first
  |(with_reducible exact ih0 _ _)
  |(with_reducible exact LeO.refl _)
  |(with_reducible exact LeO.none _)
  |(with_reducible refine LeO.ite ?_ ?_)
  |(with_reducible refine LeO.bind ?_ (fun _ => ?_))
  |exact ih0 _ _
  |exact LeO.none _
  |refine LeO.ite ?_ ?_
  |refine LeO.bind ?_ (fun _ => ?_)
theorem bursarref03_cut.mono : ∀ a0 k, LeO (bursarref03_cut.f k a0) (bursarref03_cut.f (k + 1) a0) := by
 intro a0 k
 have ih0:=bursarref03_cut.mono_l k
 unfold bursarref03_cut.f
 repeat' first
  |(with_reducible exact ih0 _ _)
  |(with_reducible exact LeO.refl _)
  |(with_reducible exact LeO.none _)
  |(with_reducible refine LeO.ite ?_ ?_)
  |(with_reducible refine LeO.bind ?_ (fun _ => ?_))
  |exact ih0 _ _
  |exact LeO.none _
  |refine LeO.ite ?_ ?_
  |refine LeO.bind ?_ (fun _ => ?_)
set_option maxHeartbeats 8000000 in
set_option maxRecDepth 100000 in
theorem bursarref03_cut.calls (k : Nat) (P0_ : Nat → Prop) (A0 : Option Addr) (c0 : Nat) (l0 : List Int) (r : List Int) (w : World) (hs0 : Kd.V (Kd.int .i64) 3 w w.heap.size (fun k_ => P0_ k_) (.slice A0 l0.length c0) l0) (h : bursarref03_cut.f k l0 = some r) :
  Calls Tryz.prog 84 #[.slice A0 l0.length c0] w fun e w' => ∃ v0_ : Value,e = .returned (.agg #[v0_]) ∧ Kd.V (Kd.int .i64) 3 w' w.heap.size (fun k_ => (P0_ k_ ∨ w.heap.size ≤ k_)) v0_ r ∧ Below w.heap.size w w':=by
 have hu85:=Tryz.underlying85
 have HO0:=Aside0.mk (show Kd.V (Kd.int .i64) 3 w w.heap.size (fun k_ => (P0_ k_ ∨ w.heap.size ≤ k_)) (.slice A0 l0.length c0) l0 from Kd.V_mono hs0 (fun k_ hk => .inl hk))
 have HB:=Aside0.mk (Below.refl w.heap.size w)
 have H : (bursarref03_cut.l0 k l0 (l0.length : Int)) = some r:=h
 clear h
 have H':=Aside0.mk H
 clear H
 go_enter Tryz.func84,Tryz.ntmps84
 go_wp2_with (first|((with_reducible refine gate_dst (N:=2) rfl ?_);refine box_event ?hg (N:=2) ?hd (cs:=#[.slice none 0 0]) (t:=85) ?hr ?_;(case hd => rfl);(case hg => rfl);(case hr => first|(go_simp;done)|(go_simp;rfl));intro gb124 hg w2 hbox hb;have n0_:=Aside0.mk (Kd.V_below (Kd.V_elderB (by (with_reducible repeat (first|apply Kd.V_alloc|apply Kd.V_drewN|apply Kd.V_drew));exact HO0.out) gb124 (Nat.le_of_eq hg.symm)) hb);have n1_:=Aside0.mk (below_step (by repeat (first|(with_reducible first|exact HB.out|apply below_alloc|apply pw_below_drewN|apply below_drew1)|exact HB.out)) hb);have n2_:=Aside0.mk (hbox);have n3_:=Aside0.mk ((by rw [hg];exact (below_size (by repeat (first|(with_reducible first|exact HB.out|apply below_alloc|apply pw_below_drewN|apply below_drew1)|exact HB.out))) : w.heap.size ≤ gb124));have n4_:=Aside0.mk ((by rw [hg];exact (below_size (by repeat (first|(with_reducible first|exact HB.out|apply below_alloc|apply pw_below_drewN|apply below_drew1)|exact HB.out))) : w.heap.size ≤ gb124));clear HO0;clear HB;have HO0:=n0_;have HB:=n1_;have BK124:=n2_;have GW124:=n3_;have GE124:=n4_;clear n0_ n1_ n2_ n3_ n4_;clear hb hbox hg))
 go_loopg [3] k (fun kq v3 w' => ∃ (x3_1 : Int),v3 = .int .i64 x3_1 ∧ Aside0 (bursarref03_cut.l0 kq l0 x3_1 = some r) ∧ Aside0 (kq ≤ k) ∧ Aside0 (Kd.V (Kd.int .i64) 3 w' w.heap.size (fun k_ => (P0_ k_ ∨ w.heap.size ≤ k_) ∧ k_ ≠ gb124) (.slice A0 l0.length c0) l0) ∧ Aside0 (w'.heap[gb124]? = some (.cells #[(.slice none 0 0)] 85 (0,0))) ∧ Aside0 (Below w.heap.size w w'))
 case atStart => exact ⟨((l0.length : Int)),(by first|rfl|(simp;done)|(simp [*];done)|(simp;rw [Bool.eq_iff_iff];simp;done)|(rw [Bool.eq_iff_iff];simp;done)),H',⟨Nat.le_refl _⟩,⟨by (with_reducible repeat (first|apply Kd.V_alloc|apply Kd.V_drewN|apply Kd.V_drew));exact HO0.out⟩,⟨by (with_reducible repeat (first|refine blk_drewN ?_ _|refine blk_drew ?_|refine blk_alloc ?_ _));exact BK124.out⟩,⟨by repeat (first|(with_reducible first|exact HB.out|apply below_alloc|apply pw_below_drewN|apply below_drew1|refine below_set ?_ GE124.out)|exact HB.out)⟩⟩
 case round =>
  clear H';(try clear p2)
  obtain ⟨x3_1,rfl,HA,HK1,HO_0,BK124,HB⟩:=hrel
  cases gk with
 |zero => exact absurd HA.out (by simp [bursarref03_cut.l0])
 |succ k1 =>
   have H:=HA.out
   clear HA
   simp only [bursarref03_cut.l0] at H
   by_cases c3 : x3_1 > 0
   rotate_left
   ·rw [if_neg c3] at H
    have c3b0 : decide (0 < x3_1) = false:=decide_eq_false c3
    clear c3
    by_cases c12 : 0 ≤ x3_1
    rotate_left
    ·rw [if_neg c12] at H
     exact absurd H (by simp)
    rw [if_pos c12] at H
    have c12b0:=eq_true c12
    have c12b1 : decide (0 ≤ x3_1) = true:=decide_eq_true c12
    clear c12
    by_cases c13 : x3_1 ≤ (l0.length : Int)
    rotate_left
    ·rw [if_neg c13] at H
     exact absurd H (by simp)
    rw [if_pos c13] at H
    have c13b0:=eq_true c13
    have c13b1 : decide (x3_1 ≤ (l0.length : Int)) = true:=decide_eq_true c13
    clear c13
    obtain ⟨y131,hy131⟩ : ∃ y_ : List Int,y_ = (l0.take (x3_1 : Int).toNat):=⟨_,rfl⟩
    replace H : (some y131) = some r:=by first|(rw [hy131];with_reducible exact H)|(have H2_:=(Option.bind_some _ _).symm.trans H;rw [hy131];with_reducible exact H2_)|(have H2_:=(Option.bind_some _ _).symm.trans H;with_reducible exact H2_)|with_reducible exact H|(rw [hy131];exact H)|exact H
    have Ny131:=Aside0.mk hy131
    clear hy131
    obtain rfl:=Option.some.inj H
    have q14 : (x3_1 : Int) ≤ ((l0.length : Int) : Int):=of_decide_eq_true (by first|(with_reducible assumption)|assumption)
    obtain ⟨i014,hi014,_,hsz14,_⟩:=info_parts info3
    have hroom14 : l0.length ≤ c0:=(Kd.V_reads' HO_0.out).2.1
    have hC14 : Kd.F (Kd.int .i64) _ _ A0 l0.length l0:=(Kd.V_at (base:=w.heap.size) HO_0.out).2.2
    have hcut14:=cut_to (P:=Tryz.prog) 80 3 .i64 Tryz.underlying80 hi014 A0 l0.length c0 x3_1 (of_decide_eq_true (by first|(with_reducible assumption)|assumption)) q14 hroom14
    have hr14:=Kd.F_take (m:=(x3_1 : Int).toNat) hC14 (by omega)
    have hy14 : y131.length = (x3_1 : Int).toNat:=(by rw [Ny131.out,List.length_take];omega)
    rw [← Ny131.out] at hr14
    rw [← hy14] at hcut14
    have HO135:=Aside0.mk (show Kd.V (Kd.int .i64) 3 _ w.heap.size _ (.slice A0 y131.length c0) y131 from Kd.V_mk (by omega) hr14)
    have HC135:=Aside0.mk (show y131.length ≤ c0 from by omega)
    clear hr14 hC14 hroom14 hi014 hsz14
    have KY14:=Aside0.mk hy14
    clear hy14
    replace q14:=eq_true q14
    have hcz15_0 : wr.cell? ⟨gb124,0,none⟩ = some (.slice none 0 0):=(blk_cell BK124.out 0).trans rfl
    have hfz15_0:=blk_frozen BK124.out 0
    go_wp2
    refine bodyPost_ret (results_cell_row rfl _ _ gb124 85 #[.slice A0 y131.length c0] (0,0) _ rfl (by (with_reducible repeat (first|refine blk_drewN ?_ _|refine blk_drew ?_|refine blk_alloc ?_ _));refine blk_put (cs:=#[.slice none 0 0]) ?_ 0 _ rfl;(with_reducible repeat (first|refine blk_drewN ?_ _|refine blk_drew ?_|refine blk_alloc ?_ _));exact BK124.out) Tryz.underlying85 rfl (by kernel_rfl)) rfl ?_
    exact ⟨_,by first|rfl|(simp [errW_none,errW_some] <;> rfl)|(simp [*,errW_none,errW_some] <;> rfl),by (with_reducible repeat (first|apply Kd.V_alloc|apply Kd.V_drewN|apply Kd.V_drew));exact Kd.V_mono (Kd.V_far (p:=⟨gb124,0,none⟩) (Kd.V_mono HO135.out (fun k_ hk => (⟨hk,hk.2⟩ : _ ∧ k_ ≠ gb124))) (fun _ hk => hk.2) (.slice A0 y131.length c0)) (fun _ hk => hk.1.1),by repeat (first|(with_reducible first|exact HB.out|apply below_alloc|apply pw_below_drewN|apply below_drew1|refine below_set ?_ GE124.out)|exact HB.out)⟩
   rw [if_pos c3] at H
   have c3b0 : decide (0 < x3_1) = true:=decide_eq_true c3
   clear c3
   obtain ⟨ji4,hji4⟩ : ∃ j_ : Int,(wrap64 (x3_1 - 1)) = j_:=⟨_,rfl⟩
   replace H : (if 0 ≤ (ji4) then (if (ji4) < (l0.length : Int) then (if (rd l0 (ji4)) = 0 then (bursarref03_cut.l0 k1 l0 ji4) else (if 0 ≤ x3_1 then (if x3_1 ≤ (l0.length : Int) then (some (l0.take (x3_1 : Int).toNat)) else (none)) else (none))) else (none)) else (none)) = some r:=by first|(rw [hji4] at H;exact H)|(simp only [hji4] at H ⊢;exact H)
   have hji4w : (IntKind.i64.wrap (x3_1 - 1)) = ji4:=(i64_w _).trans hji4
   by_cases c5 : 0 ≤ (ji4)
   rotate_left
   ·rw [if_neg c5] at H
    exact absurd H (by simp)
   rw [if_pos c5] at H
   have c5b0 : decide (0 ≤ (ji4)) = true:=decide_eq_true c5
   clear c5
   by_cases c6 : (ji4) < (l0.length : Int)
   rotate_left
   ·rw [if_neg c6] at H
    exact absurd H (by simp)
   rw [if_pos c6] at H
   have c6b0 : decide ((ji4) < (l0.length : Int)) = true:=decide_eq_true c6
   clear c6
   by_cases c7 : (rd l0 (ji4)) = 0
   ·rw [if_pos c7] at H
    have c7b0 : ((rd l0 (ji4)) == 0) = true:=beq_iff_eq.mpr c7
    have c7b1 : ((rd l0 (ji4)) != 0) = false:=bne_eq_false_iff_eq.mpr c7
    clear c7
    have H':=Aside0.mk H
    clear H
    have p125 : 0 ≤ ((ji4) : Int):=of_decide_eq_true (by first|(with_reducible assumption)|assumption)
    have q125 : (ji4) < (l0.length : Int):=of_decide_eq_true (by first|(with_reducible assumption)|assumption)
    obtain ⟨ad125,e125,hx125_0⟩:=Kd.at_int (Kd.V_reads' HO_0.out).2.2 (ji4) p125 q125
    cases e125
    replace p125:=eq_true p125
    replace q125:=eq_true q125
    go_wp2
    go_roundg k1
    case measure => have:=HK1.out;omega
    case rel => exact ⟨(ji4),(by first|rfl|(simp;done)|(simp only [← hji4] <;> (first|rfl|simp))|(simp [*];done)),H',⟨by have:=HK1.out;omega⟩,⟨by (with_reducible repeat (first|apply Kd.V_alloc|apply Kd.V_drewN|apply Kd.V_drew));exact HO_0.out⟩,⟨by (with_reducible repeat (first|refine blk_drewN ?_ _|refine blk_drew ?_|refine blk_alloc ?_ _));exact BK124.out⟩,⟨by repeat (first|(with_reducible first|exact HB.out|apply below_alloc|apply pw_below_drewN|apply below_drew1|refine below_set ?_ GE124.out)|exact HB.out)⟩⟩
   rw [if_neg c7] at H
   have c7b0 : ((rd l0 (ji4)) == 0) = false:=beq_eq_false_iff_ne.mpr c7
   have c7b1 : ((rd l0 (ji4)) != 0) = true:=bne_iff_ne.mpr c7
   by_cases c8 : 0 ≤ x3_1
   rotate_left
   ·rw [if_neg c8] at H
    exact absurd H (by simp)
   rw [if_pos c8] at H
   have c8b0:=eq_true c8
   have c8b1 : decide (0 ≤ x3_1) = true:=decide_eq_true c8
   clear c8
   by_cases c9 : x3_1 ≤ (l0.length : Int)
   rotate_left
   ·rw [if_neg c9] at H
    exact absurd H (by simp)
   rw [if_pos c9] at H
   have c9b0:=eq_true c9
   have c9b1 : decide (x3_1 ≤ (l0.length : Int)) = true:=decide_eq_true c9
   clear c9
   obtain ⟨y126,hy126⟩ : ∃ y_ : List Int,y_ = (l0.take (x3_1 : Int).toNat):=⟨_,rfl⟩
   replace H : (some y126) = some r:=by first|(rw [hy126];with_reducible exact H)|(have H2_:=(Option.bind_some _ _).symm.trans H;rw [hy126];with_reducible exact H2_)|(have H2_:=(Option.bind_some _ _).symm.trans H;with_reducible exact H2_)|with_reducible exact H|(rw [hy126];exact H)|exact H
   have Ny126:=Aside0.mk hy126
   clear hy126
   obtain rfl:=Option.some.inj H
   have p125 : 0 ≤ ((ji4) : Int):=of_decide_eq_true (by first|(with_reducible assumption)|assumption)
   have q125 : (ji4) < (l0.length : Int):=of_decide_eq_true (by first|(with_reducible assumption)|assumption)
   obtain ⟨ad125,e125,hx125_0⟩:=Kd.at_int (Kd.V_reads' HO_0.out).2.2 (ji4) p125 q125
   cases e125
   replace p125:=eq_true p125
   replace q125:=eq_true q125
   have q10 : (x3_1 : Int) ≤ ((l0.length : Int) : Int):=of_decide_eq_true (by first|(with_reducible assumption)|assumption)
   obtain ⟨i010,hi010,_,hsz10,_⟩:=info_parts info3
   have hroom10 : l0.length ≤ c0:=(Kd.V_reads' HO_0.out).2.1
   have hC10 : Kd.F (Kd.int .i64) _ _ (some ad125) l0.length l0:=(Kd.V_at (base:=w.heap.size) HO_0.out).2.2
   have hcut10:=cut_to (P:=Tryz.prog) 80 3 .i64 Tryz.underlying80 hi010 (some ad125) l0.length c0 x3_1 (of_decide_eq_true (by first|(with_reducible assumption)|assumption)) q10 hroom10
   have hr10:=Kd.F_take (m:=(x3_1 : Int).toNat) hC10 (by omega)
   have hy10 : y126.length = (x3_1 : Int).toNat:=(by rw [Ny126.out,List.length_take];omega)
   rw [← Ny126.out] at hr10
   rw [← hy10] at hcut10
   have HO130:=Aside0.mk (show Kd.V (Kd.int .i64) 3 _ w.heap.size _ (.slice (some ad125) y126.length c0) y126 from Kd.V_mk (by omega) hr10)
   have HC130:=Aside0.mk (show y126.length ≤ c0 from by omega)
   clear hr10 hC10 hroom10 hi010 hsz10
   have KY10:=Aside0.mk hy10
   clear hy10
   replace q10:=eq_true q10
   have hcz11_0 : wr.cell? ⟨gb124,0,none⟩ = some (.slice none 0 0):=(blk_cell BK124.out 0).trans rfl
   have hfz11_0:=blk_frozen BK124.out 0
   go_wp2
   refine bodyPost_ret (results_cell_row rfl _ _ gb124 85 #[.slice (some ad125) y126.length c0] (0,0) _ rfl (by (with_reducible repeat (first|refine blk_drewN ?_ _|refine blk_drew ?_|refine blk_alloc ?_ _));refine blk_put (cs:=#[.slice none 0 0]) ?_ 0 _ rfl;(with_reducible repeat (first|refine blk_drewN ?_ _|refine blk_drew ?_|refine blk_alloc ?_ _));exact BK124.out) Tryz.underlying85 rfl (by kernel_rfl)) rfl ?_
   exact ⟨_,by first|rfl|(simp [errW_none,errW_some] <;> rfl)|(simp only [← hji4];first|rfl|(simp [errW_none,errW_some] <;> rfl))|(simp [*,errW_none,errW_some] <;> rfl),by (with_reducible repeat (first|apply Kd.V_alloc|apply Kd.V_drewN|apply Kd.V_drew));exact Kd.V_mono (Kd.V_far (p:=⟨gb124,0,none⟩) (Kd.V_mono HO130.out (fun k_ hk => (⟨hk,hk.2⟩ : _ ∧ k_ ≠ gb124))) (fun _ hk => hk.2) (.slice (some ad125) y126.length c0)) (fun _ hk => hk.1.1),by repeat (first|(with_reducible first|exact HB.out|apply below_alloc|apply pw_below_drewN|apply below_drew1|refine below_set ?_ GE124.out)|exact HB.out)⟩
end Go.Proofs.YtejgbdclhlolkaaGreatDoor.Q
namespace Go.Proofs.YtejgbdclhlolkaaGreatDoor.Q
open Go.RowKit Go.Proofs.YtejgbdclhlolkaaGreatDoorW.PrintWords Go.Proofs.YtejgbdclhlolkaaGreatDoorW.PrintLast Go.Proofs.YtejgbdclhlolkaaGreatDoorW.PrintMore
attribute [local go_sem] max2_int min2_int max_two min_two max_three min_three max_four min_four   -- for this text's walks alone
set_option linter.unusedVariables false
set_option linter.unusedSimpArgs false
def bursarref03_Long_at.f (l0_0 : List Int) (a1 : Int) : Option (Int) := if a1 < (l0_0.length : Int) then (if 0 ≤ a1 then (some (rd l0_0 a1)) else (none)) else (some 0)
set_option maxHeartbeats 8000000 in
set_option maxRecDepth 100000 in
theorem bursarref03_Long_at.calls (A0_0 : Option Addr) (c0_0 : Nat) (l0_0 : List Int) (a1 : Int) (r : Int) (w : World) (hr0_0 : Kd.C (Kd.int .i64) w A0_0 l0_0.length l0_0) (hc0_0 : l0_0.length ≤ c0_0) (h : bursarref03_Long_at.f l0_0 a1 = some r) :
  Calls Tryz.prog 92 #[.agg #[.slice A0_0 l0_0.length c0_0],.int .i64 a1] w fun e w' => e = .returned (.int .i64 r) ∧ Below w.heap.size w w':=by
 have hu85:=Tryz.underlying85
 have HR0_0:=Aside0.mk hr0_0
 have HC0_0:=Aside0.mk hc0_0
 clear hr0_0 hc0_0
 have HB:=Aside0.mk (Below.refl w.heap.size w)
 have H : (if a1 < (l0_0.length : Int) then (if 0 ≤ a1 then (some (rd l0_0 a1)) else (none)) else (some 0)) = some r:=h
 clear h
 by_cases c3 : a1 < (l0_0.length : Int)
 ·rw [if_pos c3] at H
  have c3b0 : decide (a1 < (l0_0.length : Int)) = true:=decide_eq_true c3
  clear c3
  by_cases c4 : 0 ≤ a1
  ·rw [if_pos c4] at H
   have c4b0 : decide (0 ≤ a1) = true:=decide_eq_true c4
   clear c4
   obtain rfl:=Option.some.inj H
   go_enter Tryz.func92,Tryz.ntmps92
   go_wp2_with (first|((with_reducible refine gate_dst (N:=2) rfl ?_);refine box_event ?hg (N:=2) ?hd (cs:=#[.slice A0_0 l0_0.length c0_0]) (t:=85) ?hr ?_;(case hd => rfl);(case hg => rfl);(case hr => first|(go_simp;done)|(go_simp;rfl));intro gb136 hg w5 hbox hb;have n0_:=Aside0.mk (below_step (by repeat (first|(with_reducible first|exact HB.out|apply below_alloc|apply pw_below_drewN|apply below_drew1)|exact HB.out)) hb);have n1_:=Aside0.mk (hbox);have n2_:=Aside0.mk ((by rw [hg];exact (below_size (by repeat (first|(with_reducible first|exact HB.out|apply below_alloc|apply pw_below_drewN|apply below_drew1)|exact HB.out))) : w.heap.size ≤ gb136));have n3_:=Aside0.mk ((by rw [hg];exact (below_size (by repeat (first|(with_reducible first|exact HB.out|apply below_alloc|apply pw_below_drewN|apply below_drew1)|exact HB.out))) : w.heap.size ≤ gb136));clear HB;have HB:=n0_;have BK136:=n1_;have GW136:=n2_;have GE136:=n3_;clear n0_ n1_ n2_ n3_;clear hb hbox hg;have hcz6_0 : w5.cell? ⟨gb136,0,none⟩ = some (.slice A0_0 l0_0.length c0_0):=(blk_cell BK136.out 0).trans rfl;have hfz6_0:=blk_frozen BK136.out 0;have p137 : 0 ≤ (a1 : Int):=of_decide_eq_true (by first|(with_reducible assumption)|assumption);have q137 : a1 < (l0_0.length : Int):=of_decide_eq_true (by first|(with_reducible assumption)|assumption);obtain ⟨ad137,e137,hx137_0⟩:=Kd.at_int HR0_0.out a1 p137 q137;cases e137;replace hx137_0:=(HB.out.cell (World.block_lt_of_cell? w _ hx137_0)).trans hx137_0;replace p137:=eq_true p137;replace q137:=eq_true q137))
   go_ret
   exact ⟨by first|rfl|(simp [errW_none,errW_some] <;> rfl)|(simp [*,errW_none,errW_some] <;> rfl),by repeat (first|(with_reducible first|exact HB.out|apply below_alloc|apply pw_below_drewN|apply below_drew1|refine below_set ?_ GE136.out)|exact HB.out)⟩
  ·rw [if_neg c4] at H
   exact absurd H (by simp)
 ·rw [if_neg c3] at H
  have c3b0 : decide (a1 < (l0_0.length : Int)) = false:=decide_eq_false c3
  clear c3
  obtain rfl:=Option.some.inj H
  go_enter Tryz.func92,Tryz.ntmps92
  go_wp2_with (first|((with_reducible refine gate_dst (N:=2) rfl ?_);refine box_event ?hg (N:=2) ?hd (cs:=#[.slice A0_0 l0_0.length c0_0]) (t:=85) ?hr ?_;(case hd => rfl);(case hg => rfl);(case hr => first|(go_simp;done)|(go_simp;rfl));intro gb136 hg w7 hbox hb;have n0_:=Aside0.mk (below_step (by repeat (first|(with_reducible first|exact HB.out|apply below_alloc|apply pw_below_drewN|apply below_drew1)|exact HB.out)) hb);have n1_:=Aside0.mk (hbox);have n2_:=Aside0.mk ((by rw [hg];exact (below_size (by repeat (first|(with_reducible first|exact HB.out|apply below_alloc|apply pw_below_drewN|apply below_drew1)|exact HB.out))) : w.heap.size ≤ gb136));have n3_:=Aside0.mk ((by rw [hg];exact (below_size (by repeat (first|(with_reducible first|exact HB.out|apply below_alloc|apply pw_below_drewN|apply below_drew1)|exact HB.out))) : w.heap.size ≤ gb136));clear HB;have HB:=n0_;have BK136:=n1_;have GW136:=n2_;have GE136:=n3_;clear n0_ n1_ n2_ n3_;clear hb hbox hg;have hcz8_0 : w7.cell? ⟨gb136,0,none⟩ = some (.slice A0_0 l0_0.length c0_0):=(blk_cell BK136.out 0).trans rfl;have hfz8_0:=blk_frozen BK136.out 0))
  go_ret
  exact ⟨by first|rfl|(simp [errW_none,errW_some] <;> rfl)|(simp [*,errW_none,errW_some] <;> rfl),by repeat (first|(with_reducible first|exact HB.out|apply below_alloc|apply pw_below_drewN|apply below_drew1|refine below_set ?_ GE136.out)|exact HB.out)⟩
end Go.Proofs.YtejgbdclhlolkaaGreatDoor.Q
namespace Go.Proofs.YtejgbdclhlolkaaGreatDoor.Q
open Go.RowKit Go.Proofs.YtejgbdclhlolkaaGreatDoorW.PrintWords Go.Proofs.YtejgbdclhlolkaaGreatDoorW.PrintLast Go.Proofs.YtejgbdclhlolkaaGreatDoorW.PrintMore
attribute [local go_sem] max2_int min2_int max_two min_two max_three min_three max_four min_four   -- for this text's walks alone
set_option linter.unusedVariables false
set_option linter.unusedSimpArgs false
mutual
def bursarref03_Long_times.l0 : Nat → List Int → Int → List Int → List Int → Option (List Int)
|0,_,_,_,_ => none
|k + 1,x5,x6,x139000,x140000 => if x6 < (x139000.length : Int) then (bursarref03_Long_times.l1 k x5 x6 0 0 x139000 x140000) else ((bursarref03_cut.f k x5).bind fun t144 => (some t144))
def bursarref03_Long_times.l1 : Nat → List Int → Int → Int → Int → List Int → List Int → Option (List Int)
|0,_,_,_,_,_,_ => none
|k + 1,x5,x6,x7,x8,x139000,x140000 => if x8 < (x140000.length : Int) then (if 0 ≤ (wrap64 (x6 + x8)) then (if (wrap64 (x6 + x8)) < (x5.length : Int) then (if 0 ≤ x6 then (if x6 < (x139000.length : Int) then ((bursarref03_Long_at.f x140000 x8).bind fun t149 => (bursarref03_Long_times.l1 k (x5.set ((wrap64 (x6 + x8)) : Int).toNat (Int.tmod (wrap64 ((wrap64 ((rd x5 (wrap64 (x6 + x8))) + (wrap64 ((rd x139000 x6) * t149)))) + x7)) 10)) x6 (wrap64 (Int.tdiv (wrap64 ((wrap64 ((rd x5 (wrap64 (x6 + x8))) + (wrap64 ((rd x139000 x6) * t149)))) + x7)) 10)) (wrap64 (x8 + 1)) x139000 x140000)) else (none)) else (none)) else (none)) else (none)) else (if x7 > 0 then (if 0 ≤ (wrap64 (x6 + x8)) then (if (wrap64 (x6 + x8)) < (x5.length : Int) then (if 0 ≤ x6 then (if x6 < (x139000.length : Int) then ((bursarref03_Long_at.f x140000 x8).bind fun t153 => (bursarref03_Long_times.l1 k (x5.set ((wrap64 (x6 + x8)) : Int).toNat (Int.tmod (wrap64 ((wrap64 ((rd x5 (wrap64 (x6 + x8))) + (wrap64 ((rd x139000 x6) * t153)))) + x7)) 10)) x6 (wrap64 (Int.tdiv (wrap64 ((wrap64 ((rd x5 (wrap64 (x6 + x8))) + (wrap64 ((rd x139000 x6) * t153)))) + x7)) 10)) (wrap64 (x8 + 1)) x139000 x140000)) else (none)) else (none)) else (none)) else (none)) else (bursarref03_Long_times.l0 k x5 (wrap64 (x6 + 1)) x139000 x140000))
end
def bursarref03_Long_times.f (k : Nat) (l0_0 : List Int) (l1_0 : List Int) : Option (List Int) := if 0 ≤ (wrap64 ((wrap64 ((l0_0.length : Int) + (l1_0.length : Int))) + 1)) then (if (wrap64 ((wrap64 ((l0_0.length : Int) + (l1_0.length : Int))) + 1) : Int).toNat ≤ 35184372088832 then (bursarref03_Long_times.l0 k (List.replicate (wrap64 ((wrap64 ((l0_0.length : Int) + (l1_0.length : Int))) + 1) : Int).toNat 0) 0 l0_0 l1_0) else (none)) else (none)
theorem bursarref03_Long_times.mono_l : ∀ k, (∀ y0 y1 y2 y3, LeO (bursarref03_Long_times.l0 k y0 y1 y2 y3) (bursarref03_Long_times.l0 (k + 1) y0 y1 y2 y3)) ∧ (∀ y0 y1 y2 y3 y4 y5, LeO (bursarref03_Long_times.l1 k y0 y1 y2 y3 y4 y5) (bursarref03_Long_times.l1 (k + 1) y0 y1 y2 y3 y4 y5))
|0 => ⟨fun _ _ _ _ r h => by simp [bursarref03_Long_times.l0] at h,fun _ _ _ _ _ _ r h => by simp [bursarref03_Long_times.l1] at h⟩
|k + 1 => by
  obtain ⟨ih0,ih1⟩:=bursarref03_Long_times.mono_l k
  refine ⟨?_,?_⟩
  ·intro y0 y1 y2 y3
   unfold bursarref03_Long_times.l0
   repeat' first
  |(with_reducible exact ih0 _ _ _ _)
  |(with_reducible exact ih1 _ _ _ _ _ _)
  |(with_reducible exact bursarref03_cut.mono _ _)
  |(with_reducible exact LeO.refl _)
  |(with_reducible exact LeO.none _)
  |(with_reducible refine LeO.ite ?_ ?_)
  |(with_reducible refine LeO.bind ?_ (fun _ => ?_))
  |exact ih0 _ _ _ _
  |exact ih1 _ _ _ _ _ _
  |exact bursarref03_cut.mono _ _
  |exact LeO.none _
  |refine LeO.ite ?_ ?_
  |refine LeO.bind ?_ (fun _ => ?_)
  ·intro y0 y1 y2 y3 y4 y5
   unfold bursarref03_Long_times.l1
   repeat' first
  |(with_reducible exact ih0 _ _ _ _)
  |(with_reducible exact ih1 _ _ _ _ _ _)
  |(with_reducible exact bursarref03_cut.mono _ _)
  |(with_reducible exact LeO.refl _)
  |(with_reducible exact LeO.none _)
  |(with_reducible refine LeO.ite ?_ ?_)
  |(with_reducible refine LeO.bind ?_ (fun _ => ?_))
  |exact ih0 _ _ _ _
  |exact ih1 _ _ _ _ _ _
  |exact bursarref03_cut.mono _ _
  |exact LeO.none _
  |refine LeO.ite ?_ ?_
  |refine LeO.bind ?_ (fun _ => ?_)
theorem bursarref03_Long_times.mono : ∀ a0 a1 k, LeO (bursarref03_Long_times.f k a0 a1) (bursarref03_Long_times.f (k + 1) a0 a1) := by
 intro a0 a1 k
 obtain ⟨ih0,ih1⟩:=bursarref03_Long_times.mono_l k
 unfold bursarref03_Long_times.f
 repeat' first
  |(with_reducible exact ih0 _ _ _ _)
  |(with_reducible exact ih1 _ _ _ _ _ _)
  |(with_reducible exact bursarref03_cut.mono _ _)
  |(with_reducible exact LeO.refl _)
  |(with_reducible exact LeO.none _)
  |(with_reducible refine LeO.ite ?_ ?_)
  |(with_reducible refine LeO.bind ?_ (fun _ => ?_))
  |exact ih0 _ _ _ _
  |exact ih1 _ _ _ _ _ _
  |exact bursarref03_cut.mono _ _
  |exact LeO.none _
  |refine LeO.ite ?_ ?_
  |refine LeO.bind ?_ (fun _ => ?_)
def bursarref03_Long_times.T9 : Bool × List (List Nat × List Nat) := (true, [([], []), ([], []), ([], []), ([1, 2], [1, 2]), ([0, 3], [0, 3]), ([4], [4]), ([], []), ([6], [6]), ([], []), ([7, 8], [7, 8]), ([9], [9]), ([], []), ([], []), ([11, 12], [11, 12]), ([10, 13], [10, 13]), ([5, 14], [5, 14]), ([], []), ([15, 16], [15, 16]), ([17, 13, 0, 1, 2, 3, 4, 5, 6, 7, 8, 9, 10, 11, 12, 13, 14, 15, 16, 17], [17])])
def bursarref03_Long_times.B9 : List Nat := [0, 0, 0, 6, 15, 31, 0, 64, 0, 448, 960, 0, 0, 6144, 16320, 32767, 0, 131071, 262143]
theorem bursarref03_Long_times.tab9 : rtab .any (opsOf Tryz.f70 9) = bursarref03_Long_times.T9 := by kernel_rfl
theorem bursarref03_Long_times.bits9 : waitsOk bursarref03_Long_times.T9.2 bursarref03_Long_times.B9 = true := by kernel_rfl
set_option maxHeartbeats 8000000 in
set_option maxRecDepth 100000 in
theorem bursarref03_Long_times.calls (k : Nat) (A0_0 : Option Addr) (c0_0 : Nat) (l0_0 : List Int) (A1_0 : Option Addr) (c1_0 : Nat) (l1_0 : List Int) (r : List Int) (w : World) (hr0_0 : Kd.C (Kd.int .i64) w A0_0 l0_0.length l0_0) (hc0_0 : l0_0.length ≤ c0_0) (hr1_0 : Kd.C (Kd.int .i64) w A1_0 l1_0.length l1_0) (hc1_0 : l1_0.length ≤ c1_0) (h : bursarref03_Long_times.f k l0_0 l1_0 = some r) :
  Calls Tryz.prog 70 #[.agg #[.slice A0_0 l0_0.length c0_0],.agg #[.slice A1_0 l1_0.length c1_0]] w fun e w' => ∃ v0_ : Value,e = .returned (.agg #[v0_]) ∧ Kd.V (Kd.int .i64) 3 w' w.heap.size (fun k_ => (w.heap.size ≤ k_)) v0_ r ∧ Below w.heap.size w w':=by
 have hu85:=Tryz.underlying85
 have HR0_0:=Aside0.mk hr0_0
 have HC0_0:=Aside0.mk hc0_0
 clear hr0_0 hc0_0
 have HR1_0:=Aside0.mk hr1_0
 have HC1_0:=Aside0.mk hc1_0
 clear hr1_0 hc1_0
 have HB:=Aside0.mk (Below.refl w.heap.size w)
 have H : (if 0 ≤ (wrap64 ((wrap64 ((l0_0.length : Int) + (l1_0.length : Int))) + 1)) then (if (wrap64 ((wrap64 ((l0_0.length : Int) + (l1_0.length : Int))) + 1) : Int).toNat ≤ 35184372088832 then (bursarref03_Long_times.l0 k (List.replicate (wrap64 ((wrap64 ((l0_0.length : Int) + (l1_0.length : Int))) + 1) : Int).toNat 0) 0 l0_0 l1_0) else (none)) else (none)) = some r:=h
 clear h
 obtain ⟨ji3,hji3⟩ : ∃ j_ : Int,(wrap64 ((wrap64 ((l0_0.length : Int) + (l1_0.length : Int))) + 1)) = j_:=⟨_,rfl⟩
 replace H : (if 0 ≤ (ji3) then (if (ji3 : Int).toNat ≤ 35184372088832 then (bursarref03_Long_times.l0 k (List.replicate (ji3 : Int).toNat 0) 0 l0_0 l1_0) else (none)) else (none)) = some r:=by first|(rw [hji3] at H;exact H)|(simp only [hji3] at H ⊢;exact H)
 have hji3w : (IntKind.i64.wrap ((wrap64 ((l0_0.length : Int) + (l1_0.length : Int))) + 1)) = ji3:=(i64_w _).trans hji3
 by_cases c4 : 0 ≤ (ji3)
 rotate_left
 ·rw [if_neg c4] at H
  exact absurd H (by simp)
 rw [if_pos c4] at H
 have c4b0:=eq_true c4
 have c4b1 : decide (0 ≤ (ji3)) = true:=decide_eq_true c4
 clear c4
 by_cases c5 : (ji3 : Int).toNat ≤ 35184372088832
 rotate_left
 ·rw [if_neg c5] at H
  exact absurd H (by simp)
 rw [if_pos c5] at H
 have c5b0:=eq_true c5
 have c5b1 : decide ((ji3 : Int).toNat ≤ 35184372088832) = true:=decide_eq_true c5
 clear c5
 obtain ⟨y141,hy141⟩ : ∃ y_ : List Int,y_ = (List.replicate (ji3 : Int).toNat 0):=⟨_,rfl⟩
 replace H : (bursarref03_Long_times.l0 k y141 0 l0_0 l1_0) = some r:=by first|(rw [hy141];with_reducible exact H)|(have H2_:=(Option.bind_some _ _).symm.trans H;rw [hy141];with_reducible exact H2_)|(have H2_:=(Option.bind_some _ _).symm.trans H;with_reducible exact H2_)|with_reducible exact H|(rw [hy141];exact H)|exact H
 have Ny141:=Aside0.mk hy141
 clear hy141
 have H':=Aside0.mk H
 clear H
 go_enter Tryz.func70,Tryz.ntmps70
 go_wp2_with (first|((with_reducible refine gate_dst (N:=2) rfl ?_);refine box_event ?hg (N:=2) ?hd (cs:=#[.slice A0_0 l0_0.length c0_0]) (t:=85) ?hr ?_;(case hd => rfl);(case hg => rfl);(case hr => first|(go_simp;done)|(go_simp;rfl));intro gb138 hg w6 hbox hb;have n0_:=Aside0.mk (below_step (by repeat (first|(with_reducible first|exact HB.out|apply below_alloc|apply pw_below_drewN|apply below_drew1)|exact HB.out)) hb);have n1_:=Aside0.mk (hbox);have n2_:=Aside0.mk ((by rw [hg];exact (below_size (by repeat (first|(with_reducible first|exact HB.out|apply below_alloc|apply pw_below_drewN|apply below_drew1)|exact HB.out))) : w.heap.size ≤ gb138));have n3_:=Aside0.mk ((by rw [hg];exact (below_size (by repeat (first|(with_reducible first|exact HB.out|apply below_alloc|apply pw_below_drewN|apply below_drew1)|exact HB.out))) : w.heap.size ≤ gb138));clear HB;have HB:=n0_;have BK138:=n1_;have GW138:=n2_;have GE138:=n3_;clear n0_ n1_ n2_ n3_;clear hb hbox hg)|((with_reducible refine gate_dst (N:=3) rfl ?_);refine box_event ?hg (N:=3) ?hd (cs:=#[.slice A1_0 l1_0.length c1_0]) (t:=85) ?hr ?_;(case hd => rfl);(case hg => rfl);(case hr => first|(go_simp;done)|(go_simp;rfl));intro gb139 hg w7 hbox hb;have n0_:=Aside0.mk (blk_below (g:=gb138) (o:=.cells #[.slice A0_0 l0_0.length c0_0] 85 (0,0)) (by (with_reducible repeat (first|refine blk_drewN ?_ _|refine blk_drew ?_|refine blk_alloc ?_ _));exact BK138.out) hb);have n1_:=Aside0.mk (below_step (by repeat (first|(with_reducible first|exact HB.out|apply below_alloc|apply pw_below_drewN|apply below_drew1|refine below_set ?_ GE138.out)|exact HB.out)) hb);have n2_:=Aside0.mk (hbox);have n3_:=Aside0.mk ((by rw [hg];exact (below_size (by repeat (first|(with_reducible first|exact HB.out|apply below_alloc|apply pw_below_drewN|apply below_drew1|refine below_set ?_ GE138.out)|exact HB.out))) : w.heap.size ≤ gb139));have n4_:=Aside0.mk ((by rw [hg];exact (below_size (by repeat (first|(with_reducible first|exact HB.out|apply below_alloc|apply pw_below_drewN|apply below_drew1|refine below_set ?_ GE138.out)|exact HB.out))) : w.heap.size ≤ gb139));have n5_:=Aside0.mk ((by rw [hg];exact Nat.ne_of_lt (blk_lt (g:=gb138) (o:=.cells #[.slice A0_0 l0_0.length c0_0] 85 (0,0)) (by (with_reducible repeat (first|refine blk_drewN ?_ _|refine blk_drew ?_|refine blk_alloc ?_ _));exact BK138.out)) : gb138 ≠ gb139));have n6_:=Aside0.mk ((by rw [hg];exact Nat.ne_of_gt (blk_lt (g:=gb138) (o:=.cells #[.slice A0_0 l0_0.length c0_0] 85 (0,0)) (by (with_reducible repeat (first|refine blk_drewN ?_ _|refine blk_drew ?_|refine blk_alloc ?_ _));exact BK138.out)) : gb139 ≠ gb138));clear BK138;clear HB;have BK138:=n0_;have HB:=n1_;have BK139:=n2_;have GW139:=n3_;have GE139:=n4_;have NB138_139:=n5_;have NB139_138:=n6_;clear n0_ n1_ n2_ n3_ n4_ n5_ n6_;clear hb hbox hg)|((with_reducible refine gate_dst (N:=4) rfl ?_);refine box_event ?hg (N:=4) ?hd (cs:=#[.slice none 0 0]) (t:=85) ?hr ?_;(case hd => rfl);(case hg => rfl);(case hr => first|(go_simp;done)|(go_simp;rfl));intro gb140 hg w8 hbox hb;have n0_:=Aside0.mk (blk_below (g:=gb138) (o:=.cells #[.slice A0_0 l0_0.length c0_0] 85 (0,0)) (by (with_reducible repeat (first|refine blk_drewN ?_ _|refine blk_drew ?_|refine blk_alloc ?_ _));exact BK138.out) hb);have n1_:=Aside0.mk (blk_below (g:=gb139) (o:=.cells #[.slice A1_0 l1_0.length c1_0] 85 (0,0)) (by (with_reducible repeat (first|refine blk_drewN ?_ _|refine blk_drew ?_|refine blk_alloc ?_ _));exact BK139.out) hb);have n2_:=Aside0.mk (below_step (by repeat (first|(with_reducible first|exact HB.out|apply below_alloc|apply pw_below_drewN|apply below_drew1|refine below_set ?_ GE138.out|refine below_set ?_ GE139.out)|exact HB.out)) hb);have n3_:=Aside0.mk (hbox);have n4_:=Aside0.mk ((by rw [hg];exact (below_size (by repeat (first|(with_reducible first|exact HB.out|apply below_alloc|apply pw_below_drewN|apply below_drew1|refine below_set ?_ GE138.out|refine below_set ?_ GE139.out)|exact HB.out))) : w.heap.size ≤ gb140));have n5_:=Aside0.mk ((by rw [hg];exact (below_size (by repeat (first|(with_reducible first|exact HB.out|apply below_alloc|apply pw_below_drewN|apply below_drew1|refine below_set ?_ GE138.out|refine below_set ?_ GE139.out)|exact HB.out))) : w.heap.size ≤ gb140));have n6_:=Aside0.mk ((by rw [hg];exact Nat.ne_of_lt (blk_lt (g:=gb138) (o:=.cells #[.slice A0_0 l0_0.length c0_0] 85 (0,0)) (by (with_reducible repeat (first|refine blk_drewN ?_ _|refine blk_drew ?_|refine blk_alloc ?_ _));exact BK138.out)) : gb138 ≠ gb140));have n7_:=Aside0.mk ((by rw [hg];exact Nat.ne_of_gt (blk_lt (g:=gb138) (o:=.cells #[.slice A0_0 l0_0.length c0_0] 85 (0,0)) (by (with_reducible repeat (first|refine blk_drewN ?_ _|refine blk_drew ?_|refine blk_alloc ?_ _));exact BK138.out)) : gb140 ≠ gb138));have n8_:=Aside0.mk ((by rw [hg];exact Nat.ne_of_lt (blk_lt (g:=gb139) (o:=.cells #[.slice A1_0 l1_0.length c1_0] 85 (0,0)) (by (with_reducible repeat (first|refine blk_drewN ?_ _|refine blk_drew ?_|refine blk_alloc ?_ _));exact BK139.out)) : gb139 ≠ gb140));have n9_:=Aside0.mk ((by rw [hg];exact Nat.ne_of_gt (blk_lt (g:=gb139) (o:=.cells #[.slice A1_0 l1_0.length c1_0] 85 (0,0)) (by (with_reducible repeat (first|refine blk_drewN ?_ _|refine blk_drew ?_|refine blk_alloc ?_ _));exact BK139.out)) : gb140 ≠ gb139));clear BK138;clear BK139;clear HB;have BK138:=n0_;have BK139:=n1_;have HB:=n2_;have BK140:=n3_;have GW140:=n4_;have GE140:=n5_;have NB138_140:=n6_;have NB140_138:=n7_;have NB139_140:=n8_;have NB140_139:=n9_;clear n0_ n1_ n2_ n3_ n4_ n5_ n6_ n7_ n8_ n9_;clear hb hbox hg;have hnb9:=NB138_139.out;have hnc9:=NB139_138.out;have hnb10:=NB138_140.out;have hnc10:=NB140_138.out;have hcz11_0 : w8.cell? ⟨gb138,0,none⟩ = some (.slice A0_0 l0_0.length c0_0):=(blk_cell BK138.out 0).trans rfl;have hfz11_0:=blk_frozen BK138.out 0;have hnb12:=NB139_140.out;have hnc12:=NB140_139.out;have hcz13_0 : w8.cell? ⟨gb139,0,none⟩ = some (.slice A1_0 l1_0.length c1_0):=(blk_cell BK139.out 0).trans rfl;have hfz13_0:=blk_frozen BK139.out 0)|((with_reducible refine gate_dst (N:=18) rfl ?_);refine Kd.R_make (Kd.int .i64) _ 3 rfl (N:=18) rfl 80 _ _ rfl ji3 rfl rfl Tryz.underlying80 (.int .i64 0) 8 info3 rfl (by decide) (by omega) 0 (ok:=fun _ => True) (okp:=fun _ => True) rfl (fun _ hk => hk) trivial (of_decide_eq_true (by first|(with_reducible assumption)|assumption)) (Nat.le_trans (Nat.mul_le_mul_right _ (of_decide_eq_true (by first|(with_reducible assumption)|assumption) : ji3.toNat ≤ 35184372088832)) (by omega)) (Below.refl _ _) (Nat.le_refl _) ?_;intro v142 w14 ho15 hb hg_ hnew_;clear hg_ hnew_;(first|rw [← Ny141.out] at ho15|(simp only [Int.reduceToNat] at ho15;rw [← Ny141.out] at ho15));have n0_:=Aside0.mk (Kd.R_lower (Kd.R_newM (M:=fun k_ => (w.heap.size ≤ k_)) ho15 (below_size (by repeat (first|(with_reducible first|exact HB.out|apply below_alloc|apply pw_below_drewN|apply below_drew1|refine below_set ?_ GE138.out|refine below_set ?_ GE139.out|refine below_set ?_ GE140.out)|exact HB.out))) (fun k_ h_ => h_)) (below_size (by repeat (first|(with_reducible first|exact HB.out|apply below_alloc|apply pw_below_drewN|apply below_drew1|refine below_set ?_ GE138.out|refine below_set ?_ GE139.out|refine below_set ?_ GE140.out)|exact HB.out))));have n1_:=Aside0.mk (blk_below (g:=gb138) (o:=.cells #[.slice A0_0 l0_0.length c0_0] 85 (0,0)) (by (with_reducible repeat (first|refine blk_drewN ?_ _|refine blk_drew ?_|refine blk_alloc ?_ _));exact BK138.out) hb);have n2_:=Aside0.mk (blk_below (g:=gb139) (o:=.cells #[.slice A1_0 l1_0.length c1_0] 85 (0,0)) (by (with_reducible repeat (first|refine blk_drewN ?_ _|refine blk_drew ?_|refine blk_alloc ?_ _));exact BK139.out) hb);have n3_:=Aside0.mk (blk_below (g:=gb140) (o:=.cells #[.slice none 0 0] 85 (0,0)) (by (with_reducible repeat (first|refine blk_drewN ?_ _|refine blk_drew ?_|refine blk_alloc ?_ _));exact BK140.out) hb);have n4_:=Aside0.mk (below_step (by repeat (first|(with_reducible first|exact HB.out|apply below_alloc|apply pw_below_drewN|apply below_drew1|refine below_set ?_ GE138.out|refine below_set ?_ GE139.out|refine below_set ?_ GE140.out)|exact HB.out)) hb);clear BK138;clear BK139;clear BK140;clear HB;have HO143:=n0_;have BK138:=n1_;have BK139:=n2_;have BK140:=n3_;have HB:=n4_;clear n0_ n1_ n2_ n3_ n4_;clear hb ho15))
 go_loopg [6] k (fun kq v6 w' => ∃ (x5_1 : List Int) (x6_1 : Int),v6 = .int .i64 x6_1 ∧ Aside0 (bursarref03_Long_times.l0 kq x5_1 x6_1 l0_0 l1_0 = some r) ∧ Aside0 (kq ≤ k) ∧ Aside0 (Kd.R (Kd.int .i64) 3 w' w.heap.size (fun k_ => (w.heap.size ≤ k_)) v142 x5_1) ∧ Aside0 (w'.heap[gb138]? = some (.cells #[(.slice A0_0 l0_0.length c0_0)] 85 (0,0))) ∧ Aside0 (w'.heap[gb139]? = some (.cells #[(.slice A1_0 l1_0.length c1_0)] 85 (0,0))) ∧ Aside0 (w'.heap[gb140]? = some (.cells #[(.slice none 0 0)] 85 (0,0))) ∧ Aside0 (Below w.heap.size w w'))
 case atStart => exact ⟨(y141),(0),(by first|rfl|(simp;done)|(simp [*];done)|(simp;rw [Bool.eq_iff_iff];simp;done)|(rw [Bool.eq_iff_iff];simp;done)),H',⟨Nat.le_refl _⟩,⟨by (with_reducible repeat (first|apply Kd.R_alloc|apply Kd.R_drewN|apply Kd.R_drew));exact Kd.R_mono HO143.out (fun _ hk => hk.1)⟩,⟨by (with_reducible repeat (first|refine blk_drewN ?_ _|refine blk_drew ?_|refine blk_alloc ?_ _));exact BK138.out⟩,⟨by (with_reducible repeat (first|refine blk_drewN ?_ _|refine blk_drew ?_|refine blk_alloc ?_ _));exact BK139.out⟩,⟨by (with_reducible repeat (first|refine blk_drewN ?_ _|refine blk_drew ?_|refine blk_alloc ?_ _));exact BK140.out⟩,⟨by repeat (first|(with_reducible first|exact HB.out|apply below_alloc|apply pw_below_drewN|apply below_drew1|refine below_set ?_ GE138.out|refine below_set ?_ GE139.out|refine below_set ?_ GE140.out)|exact HB.out)⟩⟩
 case round =>
  clear H';(try clear c1);(try clear p2);(try clear c4);(try clear c4b0);(try clear c4b1);(try clear c5);(try clear c5b0);(try clear c5b1);(try clear p6);(try clear c7);(try clear c9);(try clear c10);(try clear c12);(try clear hcz11_0);(try clear hcz13_0);(try clear hfz11_0);(try clear hfz13_0)
  obtain ⟨x5_1,x6_1,rfl,HA,HK1,HO_5,BK138,BK139,BK140,HB⟩:=hrel
  cases gk with
 |zero => exact absurd HA.out (by simp [bursarref03_Long_times.l0])
 |succ k1 =>
   have H:=HA.out
   clear HA
   simp only [bursarref03_Long_times.l0] at H
   by_cases c16 : x6_1 < (l0_0.length : Int)
   rotate_left
   ·rw [if_neg c16] at H
    have c16b0 : decide (x6_1 < (l0_0.length : Int)) = false:=decide_eq_false c16
    clear c16
    replace H:=Option.bind_eq_some_iff.mp H
    obtain ⟨t144,A550,H⟩:=H
    replace H : (some t144) = some r:=H
    have A55:=Aside0.mk A550
    clear A550
    obtain rfl:=Option.some.inj H
    have hnb56:=NB138_139.out
    have hnc56:=NB139_138.out
    have hnb57:=NB138_140.out
    have hnc57:=NB140_138.out
    have hcz58_0 : wr.cell? ⟨gb138,0,none⟩ = some (.slice A0_0 l0_0.length c0_0):=(blk_cell BK138.out 0).trans rfl
    have hfz58_0:=blk_frozen BK138.out 0
    obtain ⟨Ao59,co59,eo59⟩:=Kd.R_slice HO_5.out
    subst eo59
    go_wp2_with (first|((with_reducible refine gate_callee (f:=84) rfl ?_);refine goesL_ (some 65) rfl rfl Tryz.func84 (by kernel_rfl) rfl #[.slice Ao59 x5_1.length co59] rfl (by (try simp only [List.map_toArray,List.map_cons,List.map_nil]);first|done|rfl|(simp only [List.length_drop,List.length_take];rfl)) ?_;(with_reducible refine (bursarref03_cut.calls k1 (fun k_ => some k_ = (.slice Ao59 x5_1.length co59 : Value).ownBlock) _ _ x5_1 t144 _ ?side1 A55.out).mono ?_);(case side1 => exact Kd.R_V (Kd.R_tight rfl (Kd.R_types (Kd.R_types (Kd.R_types (HO_5.out) BK138.out (by decide)) BK139.out (by decide)) BK140.out (by decide))));rintro e w60 ⟨v145,rfl,ho0,hb⟩;refine ⟨_,rfl,?_⟩;have n0_:=Aside0.mk (Kd.R_below (by (with_reducible repeat (first|apply Kd.R_alloc|apply Kd.R_drewN|apply Kd.R_drew));exact HO_5.out) hb);have n1_:=Aside0.mk (Kd.V_lower (Kd.V_mono (ok':=fun k_ => (w.heap.size ≤ k_) ∧ k_ ≠ gb138 ∧ k_ ≠ gb139 ∧ k_ ≠ gb140) ho0 (fun k_ hk_ => ⟨Or.elim hk_ (fun hs_ => ((Kd.R_types (Kd.R_types (Kd.R_types (HO_5.out) BK138.out (by decide)) BK139.out (by decide)) BK140.out (by decide)).1 k_ hs_.symm).1.1.1) (fun hn_ => (Nat.le_trans (below_size (by repeat (first|(with_reducible first|exact HB.out|apply below_alloc|apply pw_below_drewN|apply below_drew1|refine below_set ?_ GE138.out|refine below_set ?_ GE139.out|refine below_set ?_ GE140.out)|exact HB.out))) hn_)),Or.elim hk_ (fun hs_ => ((Kd.R_types (Kd.R_types (Kd.R_types (HO_5.out) BK138.out (by decide)) BK139.out (by decide)) BK140.out (by decide)).1 k_ hs_.symm).1.1.2) (fun hn_ => (Kd.freshB (g:=gb138) (o:=.cells #[.slice A0_0 l0_0.length c0_0] 85 (0,0)) (by (with_reducible repeat (first|refine blk_drewN ?_ _|refine blk_drew ?_|refine blk_alloc ?_ _));exact BK138.out) k_ hn_)),Or.elim hk_ (fun hs_ => ((Kd.R_types (Kd.R_types (Kd.R_types (HO_5.out) BK138.out (by decide)) BK139.out (by decide)) BK140.out (by decide)).1 k_ hs_.symm).1.2) (fun hn_ => (Kd.freshB (g:=gb139) (o:=.cells #[.slice A1_0 l1_0.length c1_0] 85 (0,0)) (by (with_reducible repeat (first|refine blk_drewN ?_ _|refine blk_drew ?_|refine blk_alloc ?_ _));exact BK139.out) k_ hn_)),Or.elim hk_ (fun hs_ => ((Kd.R_types (Kd.R_types (Kd.R_types (HO_5.out) BK138.out (by decide)) BK139.out (by decide)) BK140.out (by decide)).1 k_ hs_.symm).2) (fun hn_ => (Kd.freshB (g:=gb140) (o:=.cells #[.slice none 0 0] 85 (0,0)) (by (with_reducible repeat (first|refine blk_drewN ?_ _|refine blk_drew ?_|refine blk_alloc ?_ _));exact BK140.out) k_ hn_))⟩)) (below_size (by repeat (first|(with_reducible first|exact HB.out|apply below_alloc|apply pw_below_drewN|apply below_drew1|refine below_set ?_ GE138.out|refine below_set ?_ GE139.out|refine below_set ?_ GE140.out)|exact HB.out))));have n2_:=Aside0.mk (blk_below (g:=gb138) (o:=.cells #[.slice A0_0 l0_0.length c0_0] 85 (0,0)) (by (with_reducible repeat (first|refine blk_drewN ?_ _|refine blk_drew ?_|refine blk_alloc ?_ _));exact BK138.out) hb);have n3_:=Aside0.mk (blk_below (g:=gb139) (o:=.cells #[.slice A1_0 l1_0.length c1_0] 85 (0,0)) (by (with_reducible repeat (first|refine blk_drewN ?_ _|refine blk_drew ?_|refine blk_alloc ?_ _));exact BK139.out) hb);have n4_:=Aside0.mk (blk_below (g:=gb140) (o:=.cells #[.slice none 0 0] 85 (0,0)) (by (with_reducible repeat (first|refine blk_drewN ?_ _|refine blk_drew ?_|refine blk_alloc ?_ _));exact BK140.out) hb);have n5_:=Aside0.mk (below_step (by repeat (first|(with_reducible first|exact HB.out|apply below_alloc|apply pw_below_drewN|apply below_drew1|refine below_set ?_ GE138.out|refine below_set ?_ GE139.out|refine below_set ?_ GE140.out)|exact HB.out)) hb);clear HO_5;clear BK138;clear BK139;clear BK140;clear HB;have HO_5:=n0_;have HO146:=n1_;have BK138:=n2_;have BK139:=n3_;have BK140:=n4_;have HB:=n5_;clear n0_ n1_ n2_ n3_ n4_ n5_;(try clear hb);(try clear hb2);(try clear hk);(try clear hi);(try clear ho0);obtain ⟨Ao61,co61,eo61⟩:=Kd.V_slice HO146.out;subst eo61;have hnb62:=NB140_139.out;have hnc62:=NB139_140.out;have hcz63_0 : w60.cell? ⟨gb140,0,none⟩ = some (.slice none 0 0):=(blk_cell BK140.out 0).trans rfl;have hfz63_0:=blk_frozen BK140.out 0))
    refine bodyPost_ret (results_cell_row rfl _ _ gb140 85 #[.slice Ao61 t144.length co61] (0,0) _ rfl (by (with_reducible repeat (first|refine blk_drewN ?_ _|refine blk_drew ?_|refine blk_alloc ?_ _));refine blk_put (cs:=#[.slice none 0 0]) ?_ 0 _ rfl;(with_reducible repeat (first|refine blk_drewN ?_ _|refine blk_drew ?_|refine blk_alloc ?_ _));exact BK140.out) Tryz.underlying85 rfl (by kernel_rfl)) rfl ?_
    exact ⟨_,by first|rfl|(simp [errW_none,errW_some] <;> rfl)|(simp only [← hji3];first|rfl|(simp [errW_none,errW_some] <;> rfl))|(simp [*,errW_none,errW_some] <;> rfl),by (with_reducible repeat (first|apply Kd.V_alloc|apply Kd.V_drewN|apply Kd.V_drew));exact Kd.V_mono (Kd.V_far (p:=⟨gb140,0,none⟩) (Kd.V_mono HO146.out (fun k_ hk => (⟨hk,hk.2.2.2⟩ : _ ∧ k_ ≠ gb140))) (fun _ hk => hk.2) (.slice Ao61 t144.length co61)) (fun _ hk => hk.1.1),by repeat (first|(with_reducible first|exact HB.out|apply below_alloc|apply pw_below_drewN|apply below_drew1|refine below_set ?_ GE138.out|refine below_set ?_ GE139.out|refine below_set ?_ GE140.out)|exact HB.out)⟩
   rw [if_pos c16] at H
   have c16b0 : decide (x6_1 < (l0_0.length : Int)) = true:=decide_eq_true c16
   clear c16
   have H':=Aside0.mk H
   clear H
   have hnb17:=NB138_139.out
   have hnc17:=NB139_138.out
   have hnb18:=NB138_140.out
   have hnc18:=NB140_138.out
   have hcz19_0 : wr.cell? ⟨gb138,0,none⟩ = some (.slice A0_0 l0_0.length c0_0):=(blk_cell BK138.out 0).trans rfl
   have hfz19_0:=blk_frozen BK138.out 0
   go_wp2
   go_loopg [7,8] k1 (fun kq v7 v8 w' => ∃ (x5_2 : List Int) (x7_2 : Int) (x8_2 : Int),v7 = .int .i64 x7_2 ∧ v8 = .int .i64 x8_2 ∧ Aside0 (bursarref03_Long_times.l1 kq x5_2 x6_1 x7_2 x8_2 l0_0 l1_0 = some r) ∧ Aside0 (kq ≤ k1) ∧ Aside0 (Kd.R (Kd.int .i64) 3 w' w.heap.size (fun k_ => (w.heap.size ≤ k_)) v142 x5_2) ∧ Aside0 (w'.heap[gb138]? = some (.cells #[(.slice A0_0 l0_0.length c0_0)] 85 (0,0))) ∧ Aside0 (w'.heap[gb139]? = some (.cells #[(.slice A1_0 l1_0.length c1_0)] 85 (0,0))) ∧ Aside0 (w'.heap[gb140]? = some (.cells #[(.slice none 0 0)] 85 (0,0))) ∧ Aside0 (Below w.heap.size w w'))
   case atStart => exact ⟨(x5_1),(0),(0),(by first|rfl|(simp;done)|(simp [*];done)|(simp;rw [Bool.eq_iff_iff];simp;done)|(rw [Bool.eq_iff_iff];simp;done)),(by first|rfl|(simp;done)|(simp [*];done)|(simp;rw [Bool.eq_iff_iff];simp;done)|(rw [Bool.eq_iff_iff];simp;done)),H',⟨Nat.le_refl _⟩,⟨by (with_reducible repeat (first|apply Kd.R_alloc|apply Kd.R_drewN|apply Kd.R_drew));exact HO_5.out⟩,⟨by (with_reducible repeat (first|refine blk_drewN ?_ _|refine blk_drew ?_|refine blk_alloc ?_ _));exact BK138.out⟩,⟨by (with_reducible repeat (first|refine blk_drewN ?_ _|refine blk_drew ?_|refine blk_alloc ?_ _));exact BK139.out⟩,⟨by (with_reducible repeat (first|refine blk_drewN ?_ _|refine blk_drew ?_|refine blk_alloc ?_ _));exact BK140.out⟩,⟨by repeat (first|(with_reducible first|exact HB.out|apply below_alloc|apply pw_below_drewN|apply below_drew1|refine below_set ?_ GE138.out|refine below_set ?_ GE139.out|refine below_set ?_ GE140.out)|exact HB.out)⟩⟩
   case round =>
    clear H';(try clear c1);(try clear p2);(try clear c4);(try clear c4b0);(try clear c4b1);(try clear c5);(try clear c5b0);(try clear c5b1);(try clear p6);(try clear c7);(try clear c9);(try clear c10);(try clear c12);(try clear c16);(try clear c16b0);(try clear c17);(try clear c18);(try clear hcz11_0);(try clear hcz13_0);(try clear hcz19_0);(try clear hfz11_0);(try clear hfz13_0);(try clear hfz19_0);(try clear p2);(try clear p6)
    obtain ⟨x5_2,x7_2,x8_2,rfl,rfl,HA,HK2,HO_5,BK138,BK139,BK140,HB⟩:=hrel
    cases gk with
   |zero => exact absurd HA.out (by simp [bursarref03_Long_times.l1])
   |succ k2 =>
     have H:=HA.out
     clear HA
     simp only [bursarref03_Long_times.l1] at H
     by_cases c20 : x8_2 < (l1_0.length : Int)
     ·rw [if_pos c20] at H
      have c20b0 : decide (x8_2 < (l1_0.length : Int)) = true:=decide_eq_true c20
      clear c20
      obtain ⟨ji21,hji21⟩ : ∃ j_ : Int,(wrap64 (x6_1 + x8_2)) = j_:=⟨_,rfl⟩
      replace H : (if 0 ≤ (ji21) then (if (ji21) < (x5_2.length : Int) then (if 0 ≤ x6_1 then (if x6_1 < (l0_0.length : Int) then ((bursarref03_Long_at.f l1_0 x8_2).bind fun t149 => (bursarref03_Long_times.l1 k2 (x5_2.set ((ji21) : Int).toNat (Int.tmod (wrap64 ((wrap64 ((rd x5_2 (ji21)) + (wrap64 ((rd l0_0 x6_1) * t149)))) + x7_2)) 10)) x6_1 (wrap64 (Int.tdiv (wrap64 ((wrap64 ((rd x5_2 (ji21)) + (wrap64 ((rd l0_0 x6_1) * t149)))) + x7_2)) 10)) (wrap64 (x8_2 + 1)) l0_0 l1_0)) else (none)) else (none)) else (none)) else (none)) = some r:=by first|(rw [hji21] at H;exact H)|(simp only [hji21] at H ⊢;exact H)
      have hji21w : (IntKind.i64.wrap (x6_1 + x8_2)) = ji21:=(i64_w _).trans hji21
      by_cases c22 : 0 ≤ (ji21)
      rotate_left
      ·rw [if_neg c22] at H
       exact absurd H (by simp)
      rw [if_pos c22] at H
      have c22b0 : decide (0 ≤ (ji21)) = true:=decide_eq_true c22
      clear c22
      by_cases c23 : (ji21) < (x5_2.length : Int)
      rotate_left
      ·rw [if_neg c23] at H
       exact absurd H (by simp)
      rw [if_pos c23] at H
      have c23b0 : decide ((ji21) < (x5_2.length : Int)) = true:=decide_eq_true c23
      clear c23
      by_cases c24 : 0 ≤ x6_1
      rotate_left
      ·rw [if_neg c24] at H
       exact absurd H (by simp)
      rw [if_pos c24] at H
      have c24b0 : decide (0 ≤ x6_1) = true:=decide_eq_true c24
      clear c24
      by_cases c25 : x6_1 < (l0_0.length : Int)
      rotate_left
      ·rw [if_neg c25] at H
       exact absurd H (by simp)
      rw [if_pos c25] at H
      have c25b0 : decide (x6_1 < (l0_0.length : Int)) = true:=decide_eq_true c25
      clear c25
      replace H:=Option.bind_eq_some_iff.mp H
      obtain ⟨t149,A260,H⟩:=H
      replace H : (bursarref03_Long_times.l1 k2 (x5_2.set ((ji21) : Int).toNat (Int.tmod (wrap64 ((wrap64 ((rd x5_2 (ji21)) + (wrap64 ((rd l0_0 x6_1) * t149)))) + x7_2)) 10)) x6_1 (wrap64 (Int.tdiv (wrap64 ((wrap64 ((rd x5_2 (ji21)) + (wrap64 ((rd l0_0 x6_1) * t149)))) + x7_2)) 10)) (wrap64 (x8_2 + 1)) l0_0 l1_0) = some r:=H
      have A26:=Aside0.mk A260
      clear A260
      obtain ⟨y150,hy150⟩ : ∃ y_ : List Int,y_ = (x5_2.set ((ji21) : Int).toNat (Int.tmod (wrap64 ((wrap64 ((rd x5_2 (ji21)) + (wrap64 ((rd l0_0 x6_1) * t149)))) + x7_2)) 10)):=⟨_,rfl⟩
      replace H : (bursarref03_Long_times.l1 k2 y150 x6_1 (wrap64 (Int.tdiv (wrap64 ((wrap64 ((rd x5_2 (ji21)) + (wrap64 ((rd l0_0 x6_1) * t149)))) + x7_2)) 10)) (wrap64 (x8_2 + 1)) l0_0 l1_0) = some r:=by first|(rw [hy150];with_reducible exact H)|(have H2_:=(Option.bind_some _ _).symm.trans H;rw [hy150];with_reducible exact H2_)|(have H2_:=(Option.bind_some _ _).symm.trans H;with_reducible exact H2_)|with_reducible exact H|(rw [hy150];exact H)|exact H
      have Ny150:=Aside0.mk hy150
      clear hy150
      have H':=Aside0.mk H
      clear H
      have hnb28:=NB139_138.out
      have hnc28:=NB138_139.out
      have hnb29:=NB139_140.out
      have hnc29:=NB140_139.out
      have hcz30_0 : wr.cell? ⟨gb139,0,none⟩ = some (.slice A1_0 l1_0.length c1_0):=(blk_cell BK139.out 0).trans rfl
      have hfz30_0:=blk_frozen BK139.out 0
      try go_wp2
      have n0_:=Aside0.mk (Kd.R_drew HO_5.out)
      have n1_:=Aside0.mk (blk_drew BK138.out)
      have n2_:=Aside0.mk (blk_drew BK139.out)
      have n3_:=Aside0.mk (blk_drew BK140.out)
      have n4_:=Aside0.mk (below_drew1 HB.out)
      clear HO_5;clear BK138;clear BK139;clear BK140;clear HB;have HO_5:=n0_;have BK138:=n1_;have BK139:=n2_;have BK140:=n3_;have HB:=n4_;clear n0_ n1_ n2_ n3_ n4_
      obtain ⟨Ao32,co32,eo32⟩:=Kd.R_slice HO_5.out
      (first|subst eo32|(injection eo32 with f1_ f2_ f3_;have f4_:=f1_.symm;have f5_:=f3_.symm;clear f1_ f2_ f3_;subst f4_;subst f5_))
      have p147 : 0 ≤ ((ji21) : Int):=of_decide_eq_true (by first|(with_reducible assumption)|assumption)
      have q147 : (ji21) < (x5_2.length : Int):=of_decide_eq_true (by first|(with_reducible assumption)|assumption)
      obtain ⟨ad147,e147,hx147_0⟩:=Kd.at_int (Kd.R_reads' HO_5.out).2.2 (ji21) p147 q147
      cases e147
      replace p147:=eq_true p147
      replace q147:=eq_true q147
      have p148 : 0 ≤ (x6_1 : Int):=of_decide_eq_true (by first|(with_reducible assumption)|assumption)
      have q148 : x6_1 < (l0_0.length : Int):=of_decide_eq_true (by first|(with_reducible assumption)|assumption)
      obtain ⟨ad148,e148,hx148_0⟩:=Kd.at_int HR0_0.out x6_1 p148 q148
      have hw148_0:=hx148_0
      cases e148
      replace hx148_0:=(HB.out.cell (World.block_lt_of_cell? w _ hx148_0)).trans hx148_0
      replace p148:=eq_true p148
      replace q148:=eq_true q148
      refine start_ (n:=19) (S:=fun w' => w'.cell? ⟨gb138,0,none⟩ = some (.slice (some ad148) l0_0.length c0_0) ∧ w'.cell? ⟨gb139,0,none⟩ = some (.slice A1_0 l1_0.length c1_0) ∧ w'.cell? (ad147.add ((ji21)).toNat) = some (.int .i64 (rd x5_2 (ji21))) ∧ w'.cell? (ad148.add (x6_1).toNat) = some (.int .i64 (rd l0_0 x6_1))) (ds:=[]) (bl 0 19) (by kernel_rfl) rfl rfl ⟨(blk_cell BK138.out 0).trans rfl,(blk_cell BK139.out 0).trans rfl,hx147_0,((HB.out.cell (World.block_lt_of_cell? w _ hw148_0)).trans hw148_0)⟩ (fun hHeld => ?_);refine with_tabW bursarref03_Long_times.tab9 bursarref03_Long_times.bits9 (fun HT_ HW_ => ?_)
      generalize wr.drew = w31 at HO_5 BK138 BK139 BK140 HB hx147_0 hx148_0 hHeld ⊢
      refine pure_ (i:=0) (N:=some 37) (v:=?_) (a':=?_) (bl 1 18) rfl rfl (any_of HT_.out (by kernel_rfl)) (fun _ _ _ h => h) (Or.inl ⟨by rfl,?_⟩) ?_ ?_
      rotate_left;·intro w';go_simp;with_reducible rfl
      rotate_left;·simp only [pu_];rfl
      refine pure_ (i:=1) (N:=some 38) (v:=?_) (a':=?_) (bl 2 17) rfl rfl (any_of HT_.out (by kernel_rfl)) (fun _ _ _ h => h) (Or.inl ⟨by rfl,?_⟩) ?_ ?_
      rotate_left;·intro w';go_simp;with_reducible rfl
      rotate_left;·simp only [pu_];rfl
      refine pure_ (i:=2) (N:=some 39) (v:=?_) (a':=?_) (bl 3 16) rfl rfl (any_of HT_.out (by kernel_rfl)) (fun _ _ _ h => h) (Or.inl ⟨by rfl,?_⟩) ?_ ?_
      rotate_left;·intro w';go_simp;with_reducible rfl
      rotate_left;·simp only [pu_];rfl
      refine pure_ (i:=3) (N:=some 40) (v:=?_) (a':=?_) (bl 4 15) rfl rfl (any_of HT_.out (by kernel_rfl)) (fun _ _ _ h => h) (Or.inl ⟨by rfl,?_⟩) ?_ ?_
      rotate_left;·intro w';go_simp;with_reducible rfl
      rotate_left;·simp only [pu_];rfl
      refine pure_ (i:=4) (N:=some 41) (v:=?_) (a':=?_) (bl 5 14) rfl rfl (any_of HT_.out (by kernel_rfl)) (fun _ _ _ h => h) (Or.inl ⟨by rfl,?_⟩) ?_ ?_
      rotate_left;·intro w';go_simp;with_reducible rfl
      rotate_left;·simp only [pu_];rfl
      refine pure_ (i:=6) (N:=some 43) (v:=?_) (a':=?_) #[true,true,true,true,true,false,true,false,false,false,false,false,false,false,false,false,false,false,false] rfl rfl (any_of HT_.out (by kernel_rfl)) (fun _ _ _ h => h) (Or.inl ⟨by rfl,?_⟩) ?_ ?_
      rotate_left;·intro w';go_simp;with_reducible rfl
      rotate_left;·simp only [pu_];rfl
      refine pure_ (i:=8) (N:=some 45) (v:=?_) (a':=?_) #[true,true,true,true,true,false,true,false,true,false,false,false,false,false,false,false,false,false,false] rfl rfl (any_of HT_.out (by kernel_rfl)) (fun _ _ _ h => h) (Or.inl ⟨by rfl,?_⟩) ?_ ?_
      rotate_left;·intro w';go_simp;with_reducible rfl
      rotate_left;·simp only [pu_];rfl
      refine pure_ (i:=12) (N:=some 49) (v:=?_) (a':=?_) #[true,true,true,true,true,false,true,false,true,false,false,false,true,false,false,false,false,false,false] rfl rfl (any_of HT_.out (by kernel_rfl)) (fun _ _ _ h => h) (Or.inl ⟨by rfl,?_⟩) ?_ ?_
      rotate_left;·intro w';go_simp;with_reducible rfl
      rotate_left;·simp only [pu_];rfl
      refine pure_ (i:=16) (N:=some 53) (v:=?_) (a':=?_) #[true,true,true,true,true,false,true,false,true,false,false,false,true,false,false,false,true,false,false] rfl rfl (any_of HT_.out (by kernel_rfl)) (fun _ _ _ h => h) (Or.inl ⟨by rfl,?_⟩) ?_ ?_
      rotate_left;·intro w';go_simp;with_reducible rfl
      rotate_left;·simp only [pu_];rfl
      refine take_ (i:=5) (N:=some 42) (v:=?_) (a':=?_) #[true,true,true,true,true,true,true,false,true,false,false,false,true,false,false,false,true,false,false] rfl rfl (take_ofW HT_.out HW_.out (by kernel_rfl)) (fun _ _ _ h => h) (Or.inl ⟨by rfl,?_⟩) hHeld ?_ ?_
      rotate_left
      ·rintro w' ⟨s0,s1,s2,s3⟩
       go_simp
       with_reducible rfl
      rotate_left
      ·simp only [pu_]
       rfl
      refine take_ (i:=7) (N:=some 44) (v:=?_) (a':=?_) #[true,true,true,true,true,true,true,true,true,false,false,false,true,false,false,false,true,false,false] rfl rfl (take_ofW HT_.out HW_.out (by kernel_rfl)) (fun _ _ _ h => h) (Or.inl ⟨by rfl,?_⟩) hHeld ?_ ?_
      rotate_left
      ·rintro w' ⟨s0,s1,s2,s3⟩
       go_simp
       with_reducible rfl
      rotate_left
      ·simp only [pu_]
       rfl
      refine pure_ (i:=9) (N:=some 46) (v:=?_) (a':=?_) #[true,true,true,true,true,true,true,true,true,true,false,false,true,false,false,false,true,false,false] rfl rfl (any_of HT_.out (by kernel_rfl)) (fun _ _ _ h => h) (Or.inl ⟨by rfl,?_⟩) ?_ ?_
      rotate_left;·intro w';go_simp;with_reducible rfl
      rotate_left;·simp only [pu_];rfl
      refine take_ (i:=10) (N:=some 47) (v:=?_) (a':=?_) #[true,true,true,true,true,true,true,true,true,true,true,false,true,false,false,false,true,false,false] rfl rfl (take_ofW HT_.out HW_.out (by kernel_rfl)) (fun _ _ _ h => h) (Or.inl ⟨by rfl,?_⟩) hHeld ?_ ?_
      rotate_left
      ·rintro w' ⟨s0,s1,s2,s3⟩
       go_simp
       with_reducible rfl
      rotate_left
      ·simp only [pu_]
       rfl
      refine take_ (i:=11) (N:=some 48) (v:=?_) (a':=?_) #[true,true,true,true,true,true,true,true,true,true,true,true,true,false,false,false,true,false,false] rfl rfl (take_ofW HT_.out HW_.out (by kernel_rfl)) (fun _ _ _ h => h) (Or.inl ⟨by rfl,?_⟩) hHeld ?_ ?_
      rotate_left
      ·rintro w' ⟨s0,s1,s2,s3⟩
       go_simp
       with_reducible rfl
      rotate_left
      ·simp only [pu_]
       rfl
      refine one_ (i:=13) (N:=some 50) #[true,true,true,true,true,true,true,true,true,true,true,true,true,true,false,false,true,false,false] rfl rfl (one_of HT_.out (by kernel_rfl)) (by decide) (fun K hK => ?_)
      refine goes_ Tryz.func92 (by kernel_rfl) rfl #[.agg #[.slice A1_0 l1_0.length c1_0],.int .i64 x8_2] (by rfl) rfl rfl (by (try simp only [List.map_toArray,List.map_cons,List.map_nil]);first|done|rfl|(simp only [List.length_drop,List.length_take];rfl)) ?_
      with_reducible refine (bursarref03_Long_at.calls _ _ l1_0 x8_2 t149 _ ?side1 ?side2 A26.out).mono ?_
      (case side1 => repeat (first|exact (Kd.C_below HR1_0.out HB.out)|(with_reducible refine Kd.C_alloc ?_ _)|(with_reducible refine Kd.C_drewN ?_ _)|(with_reducible refine Kd.C_drew ?_)))
      (case side2 => exact HC1_0.out)
      rintro e w33 ⟨rfl,hb⟩
      have HS2_:=(hb.cell (World.block_lt_of_cell? _ _ (hHeld.2.2.1))).trans (hHeld.2.2.1)
      refine ⟨_,rfl,?_⟩
      have n0_:=Aside0.mk (Kd.R_below (by (with_reducible repeat (first|apply Kd.R_alloc|apply Kd.R_drewN|apply Kd.R_drew));exact HO_5.out) hb)
      have n1_:=Aside0.mk (blk_below (g:=gb138) (o:=.cells #[.slice (some ad148) l0_0.length c0_0] 85 (0,0)) (by (with_reducible repeat (first|refine blk_drewN ?_ _|refine blk_drew ?_|refine blk_alloc ?_ _));exact BK138.out) hb)
      have n2_:=Aside0.mk (blk_below (g:=gb139) (o:=.cells #[.slice A1_0 l1_0.length c1_0] 85 (0,0)) (by (with_reducible repeat (first|refine blk_drewN ?_ _|refine blk_drew ?_|refine blk_alloc ?_ _));exact BK139.out) hb)
      have n3_:=Aside0.mk (blk_below (g:=gb140) (o:=.cells #[.slice none 0 0] 85 (0,0)) (by (with_reducible repeat (first|refine blk_drewN ?_ _|refine blk_drew ?_|refine blk_alloc ?_ _));exact BK140.out) hb)
      have n4_:=Aside0.mk (below_step (by repeat (first|(with_reducible first|exact HB.out|apply below_alloc|apply pw_below_drewN|apply below_drew1|refine below_set ?_ GE138.out|refine below_set ?_ GE139.out|refine below_set ?_ GE140.out)|exact HB.out)) hb)
      clear HO_5;clear BK138;clear BK139;clear BK140;clear HB;have HO_5:=n0_;have BK138:=n1_;have BK139:=n2_;have BK140:=n3_;have HB:=n4_;clear n0_ n1_ n2_ n3_ n4_;(try clear hb);(try clear hb2);(try clear hk);(try clear hi)
      refine hK.out _ _ ⟨(blk_cell BK138.out 0).trans rfl,(blk_cell BK139.out 0).trans rfl,HS2_,((HB.out.cell (World.block_lt_of_cell? w _ hw148_0)).trans hw148_0)⟩ (fun hHeld => ?_)
      clear hK K
      refine norm_ (a':=?_) ?_ ?_
      rotate_left
      ·show Act.put _ (some 50) _ = _
       simp only [pu_]
       rfl
      refine pure_ (i:=14) (N:=some 51) (v:=?_) (a':=?_) #[true,true,true,true,true,true,true,true,true,true,true,true,true,true,true,false,true,false,false] rfl rfl (any_of HT_.out (by kernel_rfl)) (fun _ _ _ h => h) (Or.inl ⟨by rfl,?_⟩) ?_ ?_
      rotate_left;·intro w';go_simp;with_reducible rfl
      rotate_left;·simp only [pu_];rfl
      refine pure_ (i:=15) (N:=some 52) (v:=?_) (a':=?_) (bl 17 2) rfl rfl (any_of HT_.out (by kernel_rfl)) (fun _ _ _ h => h) (Or.inl ⟨by rfl,?_⟩) ?_ ?_
      rotate_left;·intro w';go_simp;with_reducible rfl
      rotate_left;·simp only [pu_];rfl
      refine pure_ (i:=17) (N:=some 54) (v:=?_) (a':=?_) (bl 18 1) rfl rfl (any_of HT_.out (by kernel_rfl)) (fun _ _ _ h => h) (Or.inl ⟨by rfl,?_⟩) ?_ ?_
      rotate_left;·intro w';go_simp;with_reducible rfl
      rotate_left;·simp only [pu_];rfl
      refine pure_ (i:=18) (N:=some 9) (v:=?_) (a':=?_) (bl 19 0) rfl rfl (any_of HT_.out (by kernel_rfl)) (fun _ _ _ h => h) (Or.inl ⟨by rfl,?_⟩) ?_ ?_
      rotate_left;·intro w';go_simp;with_reducible rfl
      rotate_left;·simp only [pu_];rfl
      refine done_ (done_of HT_.out (by kernel_rfl)) ?_
      have p27 : 0 ≤ ((ji21) : Int):=of_decide_eq_true (by first|(with_reducible assumption)|assumption)
      have q27 : ((ji21) : Int) < ((x5_2.length : Int) : Int):=of_decide_eq_true (by first|(with_reducible assumption)|assumption)
      obtain ⟨go27,co27,eo27,gb27,gl27,cl27,HG27⟩:=Kd.R_form HO_5.out (by omega)
      (first|cases eo27|(injection eo27 with ea_ en_ ec_;(first|subst ea_|(injection ea_ with ea_;subst ea_));subst ec_;clear en_))
      have GB27:=Aside0.mk gb27
      have GG27:=Aside0.mk HG27
      clear gb27 gl27 HG27
      (first|simp only [add_plain] at hx147_0|skip)
      obtain ⟨hx27_0,hf27_0⟩:=Kd.R_celln 0 HO_5.out ((ji21) : Int) p27 q27
      replace p27:=eq_true p27
      replace q27:=eq_true q27
      obtain ⟨hy34_,hz34_⟩:=Kd.R_celln 0 HO_5.out ((ji21) : Int) (of_decide_eq_true (by first|(with_reducible assumption)|assumption)) (of_decide_eq_true (by first|(with_reducible assumption)|assumption))
      have HP34:=Kd.R_putg HO_5.out ((ji21) : Int) (Int.tmod (wrap64 ((wrap64 ((rd x5_2 (ji21)) + (wrap64 ((rd l0_0 x6_1) * t149)))) + x7_2)) 10)
      try go_wp2_with (first|((with_reducible refine gate_store (t:=3) (p:=61) rfl ?_);refine store_event (t:=3) (p:=61) (v:=?vo_w35) (w1:=(w33.setCell ⟨go27,((ji21) : Int).toNat,none⟩ (.int .i64 (Int.tmod (wrap64 ((wrap64 ((rd x5_2 (ji21)) + (wrap64 ((rd l0_0 x6_1) * t149)))) + x7_2)) 10)))) ?hg ?ho ?hn ?hr ?_;(case ho => rfl);(case hg => rfl);(case hn => rfl);(case hr => first|(go_simp;done)|(go_simp;rfl));intro w35 hw;have hg : w33.grownBy w35 (some go27):=(by rw [hw];exact HP34.2);have hp_ : Kd.R (Kd.int .i64) 3 w35 w.heap.size (fun k_ => (w.heap.size ≤ k_)) (.slice (some ⟨go27,0,none⟩) x5_2.length co32) y150:=(by rw [hw,Ny150.out];exact HP34.1);clear HP34;have n0_:=Aside0.mk (hp_);have n1_:=Aside0.mk (blk_grown (g:=gb138) (o:=.cells #[.slice (some ad148) l0_0.length c0_0] 85 (0,0)) (by (with_reducible repeat (first|refine blk_drewN ?_ _|refine blk_drew ?_|refine blk_alloc ?_ _));exact BK138.out) hg (Kd.R_ne HO_5.out BK138.out (by decide)));have n2_:=Aside0.mk (blk_grown (g:=gb139) (o:=.cells #[.slice A1_0 l1_0.length c1_0] 85 (0,0)) (by (with_reducible repeat (first|refine blk_drewN ?_ _|refine blk_drew ?_|refine blk_alloc ?_ _));exact BK139.out) hg (Kd.R_ne HO_5.out BK139.out (by decide)));have n3_:=Aside0.mk (blk_grown (g:=gb140) (o:=.cells #[.slice none 0 0] 85 (0,0)) (by (with_reducible repeat (first|refine blk_drewN ?_ _|refine blk_drew ?_|refine blk_alloc ?_ _));exact BK140.out) hg (Kd.R_ne HO_5.out BK140.out (by decide)));have n4_:=Aside0.mk ((by rw [hw];exact below_set (HB.out) GB27.out : Below w.heap.size w w35));clear HO_5;clear BK138;clear BK139;clear BK140;clear HB;have HO_5:=n0_;have BK138:=n1_;have BK139:=n2_;have BK140:=n3_;have HB:=n4_;clear n0_ n1_ n2_ n3_ n4_;clear hg hw hp_))
      go_roundg k2
      case measure => have:=HK1.out;have:=HK2.out;omega
      case rel => exact ⟨(y150),(wrap64 (Int.tdiv (wrap64 ((wrap64 ((rd x5_2 (ji21)) + (wrap64 ((rd l0_0 x6_1) * t149)))) + x7_2)) 10)),(wrap64 (x8_2 + 1)),(by first|rfl|(simp;done)|(simp only [← hji21] <;> (first|rfl|simp))|(simp [*];done)),(by first|rfl|(simp;done)|(simp [*];done)|(simp;rw [Bool.eq_iff_iff];simp;done)|(rw [Bool.eq_iff_iff];simp;done)),H',⟨by have:=HK1.out;have:=HK2.out;omega⟩,⟨by (with_reducible repeat (first|apply Kd.R_alloc|apply Kd.R_drewN|apply Kd.R_drew));exact HO_5.out⟩,⟨by (with_reducible repeat (first|refine blk_drewN ?_ _|refine blk_drew ?_|refine blk_alloc ?_ _));exact BK138.out⟩,⟨by (with_reducible repeat (first|refine blk_drewN ?_ _|refine blk_drew ?_|refine blk_alloc ?_ _));exact BK139.out⟩,⟨by (with_reducible repeat (first|refine blk_drewN ?_ _|refine blk_drew ?_|refine blk_alloc ?_ _));exact BK140.out⟩,⟨by repeat (first|(with_reducible first|exact HB.out|apply below_alloc|apply pw_below_drewN|apply below_drew1|refine below_set ?_ GE138.out|refine below_set ?_ GE139.out|refine below_set ?_ GE140.out)|exact HB.out)⟩⟩
     rw [if_neg c20] at H
     have c20b0 : decide (x8_2 < (l1_0.length : Int)) = false:=decide_eq_false c20
     clear c20
     by_cases c36 : x7_2 > 0
     rotate_left
     ·rw [if_neg c36] at H
      have c36b0 : decide (0 < x7_2) = false:=decide_eq_false c36
      clear c36
      have H':=Aside0.mk H
      clear H
      have hnb52:=NB139_138.out
      have hnc52:=NB138_139.out
      have hnb53:=NB139_140.out
      have hnc53:=NB140_139.out
      have hcz54_0 : wr.cell? ⟨gb139,0,none⟩ = some (.slice A1_0 l1_0.length c1_0):=(blk_cell BK139.out 0).trans rfl
      have hfz54_0:=blk_frozen BK139.out 0
      go_wp2
      go_roundg k2
      case measure => have:=HK1.out;have:=HK2.out;omega
      case rel => exact ⟨(x5_2),(wrap64 (x6_1 + 1)),(by first|rfl|(simp;done)|(simp [*];done)|(simp;rw [Bool.eq_iff_iff];simp;done)|(rw [Bool.eq_iff_iff];simp;done)),H',⟨by have:=HK1.out;have:=HK2.out;omega⟩,⟨by (with_reducible repeat (first|apply Kd.R_alloc|apply Kd.R_drewN|apply Kd.R_drew));exact HO_5.out⟩,⟨by (with_reducible repeat (first|refine blk_drewN ?_ _|refine blk_drew ?_|refine blk_alloc ?_ _));exact BK138.out⟩,⟨by (with_reducible repeat (first|refine blk_drewN ?_ _|refine blk_drew ?_|refine blk_alloc ?_ _));exact BK139.out⟩,⟨by (with_reducible repeat (first|refine blk_drewN ?_ _|refine blk_drew ?_|refine blk_alloc ?_ _));exact BK140.out⟩,⟨by repeat (first|(with_reducible first|exact HB.out|apply below_alloc|apply pw_below_drewN|apply below_drew1|refine below_set ?_ GE138.out|refine below_set ?_ GE139.out|refine below_set ?_ GE140.out)|exact HB.out)⟩⟩
     rw [if_pos c36] at H
     have c36b0 : decide (0 < x7_2) = true:=decide_eq_true c36
     clear c36
     obtain ⟨ji37,hji37⟩ : ∃ j_ : Int,(wrap64 (x6_1 + x8_2)) = j_:=⟨_,rfl⟩
     replace H : (if 0 ≤ (ji37) then (if (ji37) < (x5_2.length : Int) then (if 0 ≤ x6_1 then (if x6_1 < (l0_0.length : Int) then ((bursarref03_Long_at.f l1_0 x8_2).bind fun t153 => (bursarref03_Long_times.l1 k2 (x5_2.set ((ji37) : Int).toNat (Int.tmod (wrap64 ((wrap64 ((rd x5_2 (ji37)) + (wrap64 ((rd l0_0 x6_1) * t153)))) + x7_2)) 10)) x6_1 (wrap64 (Int.tdiv (wrap64 ((wrap64 ((rd x5_2 (ji37)) + (wrap64 ((rd l0_0 x6_1) * t153)))) + x7_2)) 10)) (wrap64 (x8_2 + 1)) l0_0 l1_0)) else (none)) else (none)) else (none)) else (none)) = some r:=by first|(rw [hji37] at H;exact H)|(simp only [hji37] at H ⊢;exact H)
     have hji37w : (IntKind.i64.wrap (x6_1 + x8_2)) = ji37:=(i64_w _).trans hji37
     by_cases c38 : 0 ≤ (ji37)
     rotate_left
     ·rw [if_neg c38] at H
      exact absurd H (by simp)
     rw [if_pos c38] at H
     have c38b0 : decide (0 ≤ (ji37)) = true:=decide_eq_true c38
     clear c38
     by_cases c39 : (ji37) < (x5_2.length : Int)
     rotate_left
     ·rw [if_neg c39] at H
      exact absurd H (by simp)
     rw [if_pos c39] at H
     have c39b0 : decide ((ji37) < (x5_2.length : Int)) = true:=decide_eq_true c39
     clear c39
     by_cases c40 : 0 ≤ x6_1
     rotate_left
     ·rw [if_neg c40] at H
      exact absurd H (by simp)
     rw [if_pos c40] at H
     have c40b0 : decide (0 ≤ x6_1) = true:=decide_eq_true c40
     clear c40
     by_cases c41 : x6_1 < (l0_0.length : Int)
     rotate_left
     ·rw [if_neg c41] at H
      exact absurd H (by simp)
     rw [if_pos c41] at H
     have c41b0 : decide (x6_1 < (l0_0.length : Int)) = true:=decide_eq_true c41
     clear c41
     replace H:=Option.bind_eq_some_iff.mp H
     obtain ⟨t153,A420,H⟩:=H
     replace H : (bursarref03_Long_times.l1 k2 (x5_2.set ((ji37) : Int).toNat (Int.tmod (wrap64 ((wrap64 ((rd x5_2 (ji37)) + (wrap64 ((rd l0_0 x6_1) * t153)))) + x7_2)) 10)) x6_1 (wrap64 (Int.tdiv (wrap64 ((wrap64 ((rd x5_2 (ji37)) + (wrap64 ((rd l0_0 x6_1) * t153)))) + x7_2)) 10)) (wrap64 (x8_2 + 1)) l0_0 l1_0) = some r:=H
     have A42:=Aside0.mk A420
     clear A420
     obtain ⟨y154,hy154⟩ : ∃ y_ : List Int,y_ = (x5_2.set ((ji37) : Int).toNat (Int.tmod (wrap64 ((wrap64 ((rd x5_2 (ji37)) + (wrap64 ((rd l0_0 x6_1) * t153)))) + x7_2)) 10)):=⟨_,rfl⟩
     replace H : (bursarref03_Long_times.l1 k2 y154 x6_1 (wrap64 (Int.tdiv (wrap64 ((wrap64 ((rd x5_2 (ji37)) + (wrap64 ((rd l0_0 x6_1) * t153)))) + x7_2)) 10)) (wrap64 (x8_2 + 1)) l0_0 l1_0) = some r:=by first|(rw [hy154];with_reducible exact H)|(have H2_:=(Option.bind_some _ _).symm.trans H;rw [hy154];with_reducible exact H2_)|(have H2_:=(Option.bind_some _ _).symm.trans H;with_reducible exact H2_)|with_reducible exact H|(rw [hy154];exact H)|exact H
     have Ny154:=Aside0.mk hy154
     clear hy154
     have H':=Aside0.mk H
     clear H
     have hnb44:=NB139_138.out
     have hnc44:=NB138_139.out
     have hnb45:=NB139_140.out
     have hnc45:=NB140_139.out
     have hcz46_0 : wr.cell? ⟨gb139,0,none⟩ = some (.slice A1_0 l1_0.length c1_0):=(blk_cell BK139.out 0).trans rfl
     have hfz46_0:=blk_frozen BK139.out 0
     try go_wp2
     have n0_:=Aside0.mk (Kd.R_drew HO_5.out)
     have n1_:=Aside0.mk (blk_drew BK138.out)
     have n2_:=Aside0.mk (blk_drew BK139.out)
     have n3_:=Aside0.mk (blk_drew BK140.out)
     have n4_:=Aside0.mk (below_drew1 HB.out)
     clear HO_5;clear BK138;clear BK139;clear BK140;clear HB;have HO_5:=n0_;have BK138:=n1_;have BK139:=n2_;have BK140:=n3_;have HB:=n4_;clear n0_ n1_ n2_ n3_ n4_
     obtain ⟨Ao48,co48,eo48⟩:=Kd.R_slice HO_5.out
     (first|subst eo48|(injection eo48 with f1_ f2_ f3_;have f4_:=f1_.symm;have f5_:=f3_.symm;clear f1_ f2_ f3_;subst f4_;subst f5_))
     have p151 : 0 ≤ ((ji37) : Int):=of_decide_eq_true (by first|(with_reducible assumption)|assumption)
     have q151 : (ji37) < (x5_2.length : Int):=of_decide_eq_true (by first|(with_reducible assumption)|assumption)
     obtain ⟨ad151,e151,hx151_0⟩:=Kd.at_int (Kd.R_reads' HO_5.out).2.2 (ji37) p151 q151
     cases e151
     replace p151:=eq_true p151
     replace q151:=eq_true q151
     have p152 : 0 ≤ (x6_1 : Int):=of_decide_eq_true (by first|(with_reducible assumption)|assumption)
     have q152 : x6_1 < (l0_0.length : Int):=of_decide_eq_true (by first|(with_reducible assumption)|assumption)
     obtain ⟨ad152,e152,hx152_0⟩:=Kd.at_int HR0_0.out x6_1 p152 q152
     have hw152_0:=hx152_0
     cases e152
     replace hx152_0:=(HB.out.cell (World.block_lt_of_cell? w _ hx152_0)).trans hx152_0
     replace p152:=eq_true p152
     replace q152:=eq_true q152
     refine start_ (n:=19) (S:=fun w' => w'.cell? ⟨gb138,0,none⟩ = some (.slice (some ad152) l0_0.length c0_0) ∧ w'.cell? ⟨gb139,0,none⟩ = some (.slice A1_0 l1_0.length c1_0) ∧ w'.cell? (ad151.add ((ji37)).toNat) = some (.int .i64 (rd x5_2 (ji37))) ∧ w'.cell? (ad152.add (x6_1).toNat) = some (.int .i64 (rd l0_0 x6_1))) (ds:=[]) (bl 0 19) (by kernel_rfl) rfl rfl ⟨(blk_cell BK138.out 0).trans rfl,(blk_cell BK139.out 0).trans rfl,hx151_0,((HB.out.cell (World.block_lt_of_cell? w _ hw152_0)).trans hw152_0)⟩ (fun hHeld => ?_);refine with_tabW bursarref03_Long_times.tab9 bursarref03_Long_times.bits9 (fun HT_ HW_ => ?_)
     generalize wr.drew = w47 at HO_5 BK138 BK139 BK140 HB hx151_0 hx152_0 hHeld ⊢
     refine pure_ (i:=0) (N:=some 37) (v:=?_) (a':=?_) (bl 1 18) rfl rfl (any_of HT_.out (by kernel_rfl)) (fun _ _ _ h => h) (Or.inl ⟨by rfl,?_⟩) ?_ ?_
     rotate_left;·intro w';go_simp;with_reducible rfl
     rotate_left;·simp only [pu_];rfl
     refine pure_ (i:=1) (N:=some 38) (v:=?_) (a':=?_) (bl 2 17) rfl rfl (any_of HT_.out (by kernel_rfl)) (fun _ _ _ h => h) (Or.inl ⟨by rfl,?_⟩) ?_ ?_
     rotate_left;·intro w';go_simp;with_reducible rfl
     rotate_left;·simp only [pu_];rfl
     refine pure_ (i:=2) (N:=some 39) (v:=?_) (a':=?_) (bl 3 16) rfl rfl (any_of HT_.out (by kernel_rfl)) (fun _ _ _ h => h) (Or.inl ⟨by rfl,?_⟩) ?_ ?_
     rotate_left;·intro w';go_simp;with_reducible rfl
     rotate_left;·simp only [pu_];rfl
     refine pure_ (i:=3) (N:=some 40) (v:=?_) (a':=?_) (bl 4 15) rfl rfl (any_of HT_.out (by kernel_rfl)) (fun _ _ _ h => h) (Or.inl ⟨by rfl,?_⟩) ?_ ?_
     rotate_left;·intro w';go_simp;with_reducible rfl
     rotate_left;·simp only [pu_];rfl
     refine pure_ (i:=4) (N:=some 41) (v:=?_) (a':=?_) (bl 5 14) rfl rfl (any_of HT_.out (by kernel_rfl)) (fun _ _ _ h => h) (Or.inl ⟨by rfl,?_⟩) ?_ ?_
     rotate_left;·intro w';go_simp;with_reducible rfl
     rotate_left;·simp only [pu_];rfl
     refine pure_ (i:=6) (N:=some 43) (v:=?_) (a':=?_) #[true,true,true,true,true,false,true,false,false,false,false,false,false,false,false,false,false,false,false] rfl rfl (any_of HT_.out (by kernel_rfl)) (fun _ _ _ h => h) (Or.inl ⟨by rfl,?_⟩) ?_ ?_
     rotate_left;·intro w';go_simp;with_reducible rfl
     rotate_left;·simp only [pu_];rfl
     refine pure_ (i:=8) (N:=some 45) (v:=?_) (a':=?_) #[true,true,true,true,true,false,true,false,true,false,false,false,false,false,false,false,false,false,false] rfl rfl (any_of HT_.out (by kernel_rfl)) (fun _ _ _ h => h) (Or.inl ⟨by rfl,?_⟩) ?_ ?_
     rotate_left;·intro w';go_simp;with_reducible rfl
     rotate_left;·simp only [pu_];rfl
     refine pure_ (i:=12) (N:=some 49) (v:=?_) (a':=?_) #[true,true,true,true,true,false,true,false,true,false,false,false,true,false,false,false,false,false,false] rfl rfl (any_of HT_.out (by kernel_rfl)) (fun _ _ _ h => h) (Or.inl ⟨by rfl,?_⟩) ?_ ?_
     rotate_left;·intro w';go_simp;with_reducible rfl
     rotate_left;·simp only [pu_];rfl
     refine pure_ (i:=16) (N:=some 53) (v:=?_) (a':=?_) #[true,true,true,true,true,false,true,false,true,false,false,false,true,false,false,false,true,false,false] rfl rfl (any_of HT_.out (by kernel_rfl)) (fun _ _ _ h => h) (Or.inl ⟨by rfl,?_⟩) ?_ ?_
     rotate_left;·intro w';go_simp;with_reducible rfl
     rotate_left;·simp only [pu_];rfl
     refine take_ (i:=5) (N:=some 42) (v:=?_) (a':=?_) #[true,true,true,true,true,true,true,false,true,false,false,false,true,false,false,false,true,false,false] rfl rfl (take_ofW HT_.out HW_.out (by kernel_rfl)) (fun _ _ _ h => h) (Or.inl ⟨by rfl,?_⟩) hHeld ?_ ?_
     rotate_left
     ·rintro w' ⟨s0,s1,s2,s3⟩
      go_simp
      with_reducible rfl
     rotate_left
     ·simp only [pu_]
      rfl
     refine take_ (i:=7) (N:=some 44) (v:=?_) (a':=?_) #[true,true,true,true,true,true,true,true,true,false,false,false,true,false,false,false,true,false,false] rfl rfl (take_ofW HT_.out HW_.out (by kernel_rfl)) (fun _ _ _ h => h) (Or.inl ⟨by rfl,?_⟩) hHeld ?_ ?_
     rotate_left
     ·rintro w' ⟨s0,s1,s2,s3⟩
      go_simp
      with_reducible rfl
     rotate_left
     ·simp only [pu_]
      rfl
     refine pure_ (i:=9) (N:=some 46) (v:=?_) (a':=?_) #[true,true,true,true,true,true,true,true,true,true,false,false,true,false,false,false,true,false,false] rfl rfl (any_of HT_.out (by kernel_rfl)) (fun _ _ _ h => h) (Or.inl ⟨by rfl,?_⟩) ?_ ?_
     rotate_left;·intro w';go_simp;with_reducible rfl
     rotate_left;·simp only [pu_];rfl
     refine take_ (i:=10) (N:=some 47) (v:=?_) (a':=?_) #[true,true,true,true,true,true,true,true,true,true,true,false,true,false,false,false,true,false,false] rfl rfl (take_ofW HT_.out HW_.out (by kernel_rfl)) (fun _ _ _ h => h) (Or.inl ⟨by rfl,?_⟩) hHeld ?_ ?_
     rotate_left
     ·rintro w' ⟨s0,s1,s2,s3⟩
      go_simp
      with_reducible rfl
     rotate_left
     ·simp only [pu_]
      rfl
     refine take_ (i:=11) (N:=some 48) (v:=?_) (a':=?_) #[true,true,true,true,true,true,true,true,true,true,true,true,true,false,false,false,true,false,false] rfl rfl (take_ofW HT_.out HW_.out (by kernel_rfl)) (fun _ _ _ h => h) (Or.inl ⟨by rfl,?_⟩) hHeld ?_ ?_
     rotate_left
     ·rintro w' ⟨s0,s1,s2,s3⟩
      go_simp
      with_reducible rfl
     rotate_left
     ·simp only [pu_]
      rfl
     refine one_ (i:=13) (N:=some 50) #[true,true,true,true,true,true,true,true,true,true,true,true,true,true,false,false,true,false,false] rfl rfl (one_of HT_.out (by kernel_rfl)) (by decide) (fun K hK => ?_)
     refine goes_ Tryz.func92 (by kernel_rfl) rfl #[.agg #[.slice A1_0 l1_0.length c1_0],.int .i64 x8_2] (by rfl) rfl rfl (by (try simp only [List.map_toArray,List.map_cons,List.map_nil]);first|done|rfl|(simp only [List.length_drop,List.length_take];rfl)) ?_
     with_reducible refine (bursarref03_Long_at.calls _ _ l1_0 x8_2 t153 _ ?side1 ?side2 A42.out).mono ?_
     (case side1 => repeat (first|exact (Kd.C_below HR1_0.out HB.out)|(with_reducible refine Kd.C_alloc ?_ _)|(with_reducible refine Kd.C_drewN ?_ _)|(with_reducible refine Kd.C_drew ?_)))
     (case side2 => exact HC1_0.out)
     rintro e w49 ⟨rfl,hb⟩
     have HS2_:=(hb.cell (World.block_lt_of_cell? _ _ (hHeld.2.2.1))).trans (hHeld.2.2.1)
     refine ⟨_,rfl,?_⟩
     have n0_:=Aside0.mk (Kd.R_below (by (with_reducible repeat (first|apply Kd.R_alloc|apply Kd.R_drewN|apply Kd.R_drew));exact HO_5.out) hb)
     have n1_:=Aside0.mk (blk_below (g:=gb138) (o:=.cells #[.slice (some ad152) l0_0.length c0_0] 85 (0,0)) (by (with_reducible repeat (first|refine blk_drewN ?_ _|refine blk_drew ?_|refine blk_alloc ?_ _));exact BK138.out) hb)
     have n2_:=Aside0.mk (blk_below (g:=gb139) (o:=.cells #[.slice A1_0 l1_0.length c1_0] 85 (0,0)) (by (with_reducible repeat (first|refine blk_drewN ?_ _|refine blk_drew ?_|refine blk_alloc ?_ _));exact BK139.out) hb)
     have n3_:=Aside0.mk (blk_below (g:=gb140) (o:=.cells #[.slice none 0 0] 85 (0,0)) (by (with_reducible repeat (first|refine blk_drewN ?_ _|refine blk_drew ?_|refine blk_alloc ?_ _));exact BK140.out) hb)
     have n4_:=Aside0.mk (below_step (by repeat (first|(with_reducible first|exact HB.out|apply below_alloc|apply pw_below_drewN|apply below_drew1|refine below_set ?_ GE138.out|refine below_set ?_ GE139.out|refine below_set ?_ GE140.out)|exact HB.out)) hb)
     clear HO_5;clear BK138;clear BK139;clear BK140;clear HB;have HO_5:=n0_;have BK138:=n1_;have BK139:=n2_;have BK140:=n3_;have HB:=n4_;clear n0_ n1_ n2_ n3_ n4_;(try clear hb);(try clear hb2);(try clear hk);(try clear hi)
     refine hK.out _ _ ⟨(blk_cell BK138.out 0).trans rfl,(blk_cell BK139.out 0).trans rfl,HS2_,((HB.out.cell (World.block_lt_of_cell? w _ hw152_0)).trans hw152_0)⟩ (fun hHeld => ?_)
     clear hK K
     refine norm_ (a':=?_) ?_ ?_
     rotate_left
     ·show Act.put _ (some 50) _ = _
      simp only [pu_]
      rfl
     refine pure_ (i:=14) (N:=some 51) (v:=?_) (a':=?_) #[true,true,true,true,true,true,true,true,true,true,true,true,true,true,true,false,true,false,false] rfl rfl (any_of HT_.out (by kernel_rfl)) (fun _ _ _ h => h) (Or.inl ⟨by rfl,?_⟩) ?_ ?_
     rotate_left;·intro w';go_simp;with_reducible rfl
     rotate_left;·simp only [pu_];rfl
     refine pure_ (i:=15) (N:=some 52) (v:=?_) (a':=?_) (bl 17 2) rfl rfl (any_of HT_.out (by kernel_rfl)) (fun _ _ _ h => h) (Or.inl ⟨by rfl,?_⟩) ?_ ?_
     rotate_left;·intro w';go_simp;with_reducible rfl
     rotate_left;·simp only [pu_];rfl
     refine pure_ (i:=17) (N:=some 54) (v:=?_) (a':=?_) (bl 18 1) rfl rfl (any_of HT_.out (by kernel_rfl)) (fun _ _ _ h => h) (Or.inl ⟨by rfl,?_⟩) ?_ ?_
     rotate_left;·intro w';go_simp;with_reducible rfl
     rotate_left;·simp only [pu_];rfl
     refine pure_ (i:=18) (N:=some 9) (v:=?_) (a':=?_) (bl 19 0) rfl rfl (any_of HT_.out (by kernel_rfl)) (fun _ _ _ h => h) (Or.inl ⟨by rfl,?_⟩) ?_ ?_
     rotate_left;·intro w';go_simp;with_reducible rfl
     rotate_left;·simp only [pu_];rfl
     refine done_ (done_of HT_.out (by kernel_rfl)) ?_
     have p43 : 0 ≤ ((ji37) : Int):=of_decide_eq_true (by first|(with_reducible assumption)|assumption)
     have q43 : ((ji37) : Int) < ((x5_2.length : Int) : Int):=of_decide_eq_true (by first|(with_reducible assumption)|assumption)
     obtain ⟨go43,co43,eo43,gb43,gl43,cl43,HG43⟩:=Kd.R_form HO_5.out (by omega)
     (first|cases eo43|(injection eo43 with ea_ en_ ec_;(first|subst ea_|(injection ea_ with ea_;subst ea_));subst ec_;clear en_))
     have GB43:=Aside0.mk gb43
     have GG43:=Aside0.mk HG43
     clear gb43 gl43 HG43
     (first|simp only [add_plain] at hx151_0|skip)
     obtain ⟨hx43_0,hf43_0⟩:=Kd.R_celln 0 HO_5.out ((ji37) : Int) p43 q43
     replace p43:=eq_true p43
     replace q43:=eq_true q43
     obtain ⟨hy50_,hz50_⟩:=Kd.R_celln 0 HO_5.out ((ji37) : Int) (of_decide_eq_true (by first|(with_reducible assumption)|assumption)) (of_decide_eq_true (by first|(with_reducible assumption)|assumption))
     have HP50:=Kd.R_putg HO_5.out ((ji37) : Int) (Int.tmod (wrap64 ((wrap64 ((rd x5_2 (ji37)) + (wrap64 ((rd l0_0 x6_1) * t153)))) + x7_2)) 10)
     try go_wp2_with (first|((with_reducible refine gate_store (t:=3) (p:=61) rfl ?_);refine store_event (t:=3) (p:=61) (v:=?vo_w51) (w1:=(w49.setCell ⟨go43,((ji37) : Int).toNat,none⟩ (.int .i64 (Int.tmod (wrap64 ((wrap64 ((rd x5_2 (ji37)) + (wrap64 ((rd l0_0 x6_1) * t153)))) + x7_2)) 10)))) ?hg ?ho ?hn ?hr ?_;(case ho => rfl);(case hg => rfl);(case hn => rfl);(case hr => first|(go_simp;done)|(go_simp;rfl));intro w51 hw;have hg : w49.grownBy w51 (some go43):=(by rw [hw];exact HP50.2);have hp_ : Kd.R (Kd.int .i64) 3 w51 w.heap.size (fun k_ => (w.heap.size ≤ k_)) (.slice (some ⟨go43,0,none⟩) x5_2.length co48) y154:=(by rw [hw,Ny154.out];exact HP50.1);clear HP50;have n0_:=Aside0.mk (hp_);have n1_:=Aside0.mk (blk_grown (g:=gb138) (o:=.cells #[.slice (some ad152) l0_0.length c0_0] 85 (0,0)) (by (with_reducible repeat (first|refine blk_drewN ?_ _|refine blk_drew ?_|refine blk_alloc ?_ _));exact BK138.out) hg (Kd.R_ne HO_5.out BK138.out (by decide)));have n2_:=Aside0.mk (blk_grown (g:=gb139) (o:=.cells #[.slice A1_0 l1_0.length c1_0] 85 (0,0)) (by (with_reducible repeat (first|refine blk_drewN ?_ _|refine blk_drew ?_|refine blk_alloc ?_ _));exact BK139.out) hg (Kd.R_ne HO_5.out BK139.out (by decide)));have n3_:=Aside0.mk (blk_grown (g:=gb140) (o:=.cells #[.slice none 0 0] 85 (0,0)) (by (with_reducible repeat (first|refine blk_drewN ?_ _|refine blk_drew ?_|refine blk_alloc ?_ _));exact BK140.out) hg (Kd.R_ne HO_5.out BK140.out (by decide)));have n4_:=Aside0.mk ((by rw [hw];exact below_set (HB.out) GB43.out : Below w.heap.size w w51));clear HO_5;clear BK138;clear BK139;clear BK140;clear HB;have HO_5:=n0_;have BK138:=n1_;have BK139:=n2_;have BK140:=n3_;have HB:=n4_;clear n0_ n1_ n2_ n3_ n4_;clear hg hw hp_))
     go_roundg k2
     case measure => have:=HK1.out;have:=HK2.out;omega
     case rel => exact ⟨(y154),(wrap64 (Int.tdiv (wrap64 ((wrap64 ((rd x5_2 (ji37)) + (wrap64 ((rd l0_0 x6_1) * t153)))) + x7_2)) 10)),(wrap64 (x8_2 + 1)),(by first|rfl|(simp;done)|(simp only [← hji37] <;> (first|rfl|simp))|(simp [*];done)),(by first|rfl|(simp;done)|(simp [*];done)|(simp;rw [Bool.eq_iff_iff];simp;done)|(rw [Bool.eq_iff_iff];simp;done)),H',⟨by have:=HK1.out;have:=HK2.out;omega⟩,⟨by (with_reducible repeat (first|apply Kd.R_alloc|apply Kd.R_drewN|apply Kd.R_drew));exact HO_5.out⟩,⟨by (with_reducible repeat (first|refine blk_drewN ?_ _|refine blk_drew ?_|refine blk_alloc ?_ _));exact BK138.out⟩,⟨by (with_reducible repeat (first|refine blk_drewN ?_ _|refine blk_drew ?_|refine blk_alloc ?_ _));exact BK139.out⟩,⟨by (with_reducible repeat (first|refine blk_drewN ?_ _|refine blk_drew ?_|refine blk_alloc ?_ _));exact BK140.out⟩,⟨by repeat (first|(with_reducible first|exact HB.out|apply below_alloc|apply pw_below_drewN|apply below_drew1|refine below_set ?_ GE138.out|refine below_set ?_ GE139.out|refine below_set ?_ GE140.out)|exact HB.out)⟩⟩
end Go.Proofs.YtejgbdclhlolkaaGreatDoor.Q
namespace Go.Proofs.YtejgbdclhlolkaaGreatDoor.Q
open Go.RowKit Go.Proofs.YtejgbdclhlolkaaGreatDoorW.PrintWords Go.Proofs.YtejgbdclhlolkaaGreatDoorW.PrintLast Go.Proofs.YtejgbdclhlolkaaGreatDoorW.PrintMore
attribute [local go_sem] max2_int min2_int max_two min_two max_three min_three max_four min_four   -- for this text's walks alone
set_option linter.unusedVariables false
set_option linter.unusedSimpArgs false
def bursarref03_power.l0 : Nat → Int → Int → Int → List Int → Option (List Int)
|0,_,_,_,_ => none
|k + 1,x0,x1,x6,x160000 => if x6 < x1 then ((bursarref03_long.f k x0).bind fun t160 => ((bursarref03_Long_times.f k x160000 t160).bind fun t163 => (bursarref03_power.l0 k x0 x1 (wrap64 (x6 + 1)) t163))) else (some x160000)
def bursarref03_power.f (k : Nat) (a0 : Int) (a1 : Int) : Option (List Int) := (bursarref03_long.f k 1).bind fun t156 => (bursarref03_power.l0 k a0 a1 0 t156)
theorem bursarref03_power.mono_l : ∀ k, (∀ y0 y1 y2 y3, LeO (bursarref03_power.l0 k y0 y1 y2 y3) (bursarref03_power.l0 (k + 1) y0 y1 y2 y3))
|0 => fun _ _ _ _ r h => by simp [bursarref03_power.l0] at h
|k + 1 => by
  have ih0:=bursarref03_power.mono_l k
  ·intro y0 y1 y2 y3
   unfold bursarref03_power.l0
   repeat' first
  |(with_reducible exact ih0 _ _ _ _)
  |(with_reducible exact bursarref03_Long_times.mono _ _ _)
  |(with_reducible exact bursarref03_long.mono _ _)
  |(with_reducible exact LeO.refl _)
  |(with_reducible exact LeO.none _)
  |(with_reducible refine LeO.ite ?_ ?_)
  |(with_reducible refine LeO.bind ?_ (fun _ => ?_))
  |exact ih0 _ _ _ _
  |exact bursarref03_Long_times.mono _ _ _
  |exact bursarref03_long.mono _ _
  |exact LeO.none _
  |refine LeO.ite ?_ ?_
  |refine LeO.bind ?_ (fun _ => ?_)
theorem bursarref03_power.mono : ∀ a0 a1 k, LeO (bursarref03_power.f k a0 a1) (bursarref03_power.f (k + 1) a0 a1) := by
 intro a0 a1 k
 have ih0:=bursarref03_power.mono_l k
 unfold bursarref03_power.f
 repeat' first
  |(with_reducible exact ih0 _ _ _ _)
  |(with_reducible exact bursarref03_Long_times.mono _ _ _)
  |(with_reducible exact bursarref03_long.mono _ _)
  |(with_reducible exact LeO.refl _)
  |(with_reducible exact LeO.none _)
  |(with_reducible refine LeO.ite ?_ ?_)
  |(with_reducible refine LeO.bind ?_ (fun _ => ?_))
  |exact ih0 _ _ _ _
  |exact bursarref03_Long_times.mono _ _ _
  |exact bursarref03_long.mono _ _
  |exact LeO.none _
  |refine LeO.ite ?_ ?_
  |refine LeO.bind ?_ (fun _ => ?_)
set_option maxHeartbeats 8000000 in
set_option maxRecDepth 100000 in
theorem bursarref03_power.calls (k : Nat) (a0 : Int) (a1 : Int) (r : List Int) (w : World) (h : bursarref03_power.f k a0 a1 = some r) :
  Calls Tryz.prog 83 #[.int .i64 a0,.int .i64 a1] w fun e w' => ∃ v0_ : Value,e = .returned (.agg #[v0_]) ∧ Kd.V (Kd.int .i64) 3 w' w.heap.size (fun k_ => (w.heap.size ≤ k_)) v0_ r ∧ Below w.heap.size w w':=by
 have hu85:=Tryz.underlying85
 have HB:=Aside0.mk (Below.refl w.heap.size w)
 have H : ((bursarref03_long.f k 1).bind fun t156 => (bursarref03_power.l0 k a0 a1 0 t156)) = some r:=h
 clear h
 replace H:=Option.bind_eq_some_iff.mp H
 obtain ⟨t156,A30,H⟩:=H
 replace H : (bursarref03_power.l0 k a0 a1 0 t156) = some r:=H
 have A3:=Aside0.mk A30
 clear A30
 have H':=Aside0.mk H
 clear H
 go_enter Tryz.func83,Tryz.ntmps83
 go_wp2_with (first|((with_reducible refine gate_dst (N:=4) rfl ?_);refine box_event ?hg (N:=4) ?hd (cs:=#[.slice none 0 0]) (t:=85) ?hr ?_;(case hd => rfl);(case hg => rfl);(case hr => first|(go_simp;done)|(go_simp;rfl));intro gb155 hg w4 hbox hb;have n0_:=Aside0.mk (below_step (by repeat (first|(with_reducible first|exact HB.out|apply below_alloc|apply pw_below_drewN|apply below_drew1)|exact HB.out)) hb);have n1_:=Aside0.mk (hbox);have n2_:=Aside0.mk ((by rw [hg];exact (below_size (by repeat (first|(with_reducible first|exact HB.out|apply below_alloc|apply pw_below_drewN|apply below_drew1)|exact HB.out))) : w.heap.size ≤ gb155));have n3_:=Aside0.mk ((by rw [hg];exact (below_size (by repeat (first|(with_reducible first|exact HB.out|apply below_alloc|apply pw_below_drewN|apply below_drew1)|exact HB.out))) : w.heap.size ≤ gb155));clear HB;have HB:=n0_;have BK155:=n1_;have GW155:=n2_;have GE155:=n3_;clear n0_ n1_ n2_ n3_;clear hb hbox hg)|((with_reducible refine gate_callee (f:=62) rfl ?_);refine goesL_ (some 7) rfl rfl Tryz.func62 (by kernel_rfl) rfl #[.int .i64 1] rfl (by (try simp only [List.map_toArray,List.map_cons,List.map_nil]);first|done|rfl|(simp only [List.length_drop,List.length_take];rfl)) ?_;(with_reducible refine (bursarref03_long.calls k 1 t156 _ A3.out).mono ?_);rintro e w5 ⟨v157,rfl,ho0,hb⟩;refine ⟨_,rfl,?_⟩;have n0_:=Aside0.mk (Kd.R_lower (Kd.R_newM (M:=fun k_ => (w.heap.size ≤ k_)) ho0 (below_size (by repeat (first|(with_reducible first|exact HB.out|apply below_alloc|apply pw_below_drewN|apply below_drew1|refine below_set ?_ GE155.out)|exact HB.out))) (fun k_ h_ => h_)) (below_size (by repeat (first|(with_reducible first|exact HB.out|apply below_alloc|apply pw_below_drewN|apply below_drew1|refine below_set ?_ GE155.out)|exact HB.out))));have n1_:=Aside0.mk (blk_below (g:=gb155) (o:=.cells #[.slice none 0 0] 85 (0,0)) (by (with_reducible repeat (first|refine blk_drewN ?_ _|refine blk_drew ?_|refine blk_alloc ?_ _));exact BK155.out) hb);have n2_:=Aside0.mk (below_step (by repeat (first|(with_reducible first|exact HB.out|apply below_alloc|apply pw_below_drewN|apply below_drew1|refine below_set ?_ GE155.out)|exact HB.out)) hb);clear BK155;clear HB;have HO158:=n0_;have BK155:=n1_;have HB:=n2_;clear n0_ n1_ n2_;(try clear hb);(try clear hb2);(try clear hk);(try clear hi);(try clear ho0))|((with_reducible refine gate_dst (N:=5) rfl ?_);refine box_event ?hg (N:=5) ?hd (cs:=#[.slice none 0 0]) (t:=85) ?hr ?_;(case hd => rfl);(case hg => rfl);(case hr => first|(go_simp;done)|(go_simp;rfl));intro gb159 hg w6 hbox hb;have n0_:=Aside0.mk (Kd.R_below (by (with_reducible repeat (first|apply Kd.R_alloc|apply Kd.R_drewN|apply Kd.R_drew));exact HO158.out) hb);have n1_:=Aside0.mk (blk_below (g:=gb155) (o:=.cells #[.slice none 0 0] 85 (0,0)) (by (with_reducible repeat (first|refine blk_drewN ?_ _|refine blk_drew ?_|refine blk_alloc ?_ _));exact BK155.out) hb);have n2_:=Aside0.mk (below_step (by repeat (first|(with_reducible first|exact HB.out|apply below_alloc|apply pw_below_drewN|apply below_drew1|refine below_set ?_ GE155.out)|exact HB.out)) hb);have n3_:=Aside0.mk (hbox);have n4_:=Aside0.mk ((by rw [hg];exact (below_size (by repeat (first|(with_reducible first|exact HB.out|apply below_alloc|apply pw_below_drewN|apply below_drew1|refine below_set ?_ GE155.out)|exact HB.out))) : w.heap.size ≤ gb159));have n5_:=Aside0.mk ((by rw [hg];exact (below_size (by repeat (first|(with_reducible first|exact HB.out|apply below_alloc|apply pw_below_drewN|apply below_drew1|refine below_set ?_ GE155.out)|exact HB.out))) : w.heap.size ≤ gb159));have n6_:=Aside0.mk ((by rw [hg];exact Nat.ne_of_lt (blk_lt (g:=gb155) (o:=.cells #[.slice none 0 0] 85 (0,0)) (by (with_reducible repeat (first|refine blk_drewN ?_ _|refine blk_drew ?_|refine blk_alloc ?_ _));exact BK155.out)) : gb155 ≠ gb159));have n7_:=Aside0.mk ((by rw [hg];exact Nat.ne_of_gt (blk_lt (g:=gb155) (o:=.cells #[.slice none 0 0] 85 (0,0)) (by (with_reducible repeat (first|refine blk_drewN ?_ _|refine blk_drew ?_|refine blk_alloc ?_ _));exact BK155.out)) : gb159 ≠ gb155));clear HO158;clear BK155;clear HB;have HO158:=n0_;have BK155:=n1_;have HB:=n2_;have BK159:=n3_;have GW159:=n4_;have GE159:=n5_;have NB155_159:=n6_;have NB159_155:=n7_;clear n0_ n1_ n2_ n3_ n4_ n5_ n6_ n7_;clear hb hbox hg;obtain ⟨Ao7,co7,eo7⟩:=Kd.R_slice HO158.out;subst eo7;have hnb8:=NB159_155.out;have hnc8:=NB155_159.out;have hcz9_0 : w6.cell? ⟨gb159,0,none⟩ = some (.slice none 0 0):=(blk_cell BK159.out 0).trans rfl;have hfz9_0:=blk_frozen BK159.out 0))
 go_loopg [6] k (fun kq v6 w' => ∃ (x6_1 : Int) (x160000_1 : List Int) (u160000 : Value),v6 = .int .i64 x6_1 ∧ Aside0 (bursarref03_power.l0 kq a0 a1 x6_1 x160000_1 = some r) ∧ Aside0 (kq ≤ k) ∧ Aside0 (Kd.V (Kd.int .i64) 3 w' w.heap.size (fun k_ => (w.heap.size ≤ k_) ∧ k_ ≠ gb155 ∧ k_ ≠ gb159) u160000 x160000_1) ∧ Aside0 (w'.heap[gb155]? = some (.cells #[(.slice none 0 0)] 85 (0,0))) ∧ Aside0 (w'.heap[gb159]? = some (.cells #[u160000] 85 (0,0))) ∧ Aside0 (Below w.heap.size w w'))
 case atStart => exact ⟨(0),(t156),(.slice Ao7 t156.length co7),(by first|rfl|(simp;done)|(simp [*];done)|(simp;rw [Bool.eq_iff_iff];simp;done)|(rw [Bool.eq_iff_iff];simp;done)),H',⟨Nat.le_refl _⟩,⟨Kd.R_V (by (with_reducible repeat (first|apply Kd.R_alloc|apply Kd.R_drewN|apply Kd.R_drew));exact Kd.R_mono (Kd.R_far (p:=⟨gb159,0,none⟩) (Kd.R_types (Kd.R_types (Kd.R_types HO158.out BK155.out (by decide)) BK159.out (by decide)) BK159.out (by decide)) (fun _ hk => hk.2) (.slice Ao7 t156.length co7)) (fun _ hk => ⟨hk.1.1.1.1,⟨hk.1.1.2,hk.1.2⟩⟩))⟩,⟨by (with_reducible repeat (first|refine blk_drewN ?_ _|refine blk_drew ?_|refine blk_alloc ?_ _));refine blk_far ?_ NB155_159.out _;(with_reducible repeat (first|refine blk_drewN ?_ _|refine blk_drew ?_|refine blk_alloc ?_ _));exact BK155.out⟩,⟨by (with_reducible repeat (first|refine blk_drewN ?_ _|refine blk_drew ?_|refine blk_alloc ?_ _));refine blk_put (cs:=#[.slice none 0 0]) ?_ 0 _ rfl;(with_reducible repeat (first|refine blk_drewN ?_ _|refine blk_drew ?_|refine blk_alloc ?_ _));exact BK159.out⟩,⟨by repeat (first|(with_reducible first|exact HB.out|apply below_alloc|apply pw_below_drewN|apply below_drew1|refine below_set ?_ GE155.out|refine below_set ?_ GE159.out)|exact HB.out)⟩⟩
 case round =>
  clear H';(try clear p2);(try clear c6);(try clear c8);(try clear hcz9_0);(try clear hfz9_0)
  obtain ⟨x6_1,x160000_1,u160000,rfl,HA,HK1,HO_160000,BK155,BK159,HB⟩:=hrel
  cases gk with
 |zero => exact absurd HA.out (by simp [bursarref03_power.l0])
 |succ k1 =>
   have H:=HA.out
   clear HA
   simp only [bursarref03_power.l0] at H
   by_cases c10 : x6_1 < a1
   rotate_left
   ·rw [if_neg c10] at H
    have c10b0 : decide (x6_1 < a1) = false:=decide_eq_false c10
    clear c10
    obtain rfl:=Option.some.inj H
    have hnb20:=NB159_155.out
    have hnc20:=NB155_159.out
    have hcz21_0 : wr.cell? ⟨gb159,0,none⟩ = some (u160000):=(blk_cell BK159.out 0).trans rfl
    have hfz21_0:=blk_frozen BK159.out 0
    obtain ⟨Ao22,co22,eo22⟩:=Kd.V_slice HO_160000.out
    subst eo22
    have hcz23_0 : wr.cell? ⟨gb155,0,none⟩ = some (.slice none 0 0):=(blk_cell BK155.out 0).trans rfl
    have hfz23_0:=blk_frozen BK155.out 0
    go_wp2
    refine bodyPost_ret (results_cell_row rfl _ _ gb155 85 #[.slice Ao22 x160000_1.length co22] (0,0) _ rfl (by (with_reducible repeat (first|refine blk_drewN ?_ _|refine blk_drew ?_|refine blk_alloc ?_ _));refine blk_put (cs:=#[.slice none 0 0]) ?_ 0 _ rfl;(with_reducible repeat (first|refine blk_drewN ?_ _|refine blk_drew ?_|refine blk_alloc ?_ _));exact BK155.out) Tryz.underlying85 rfl (by kernel_rfl)) rfl ?_
    exact ⟨_,by first|rfl|(simp [errW_none,errW_some] <;> rfl)|(simp [*,errW_none,errW_some] <;> rfl),by (with_reducible repeat (first|apply Kd.V_alloc|apply Kd.V_drewN|apply Kd.V_drew));exact Kd.V_mono (Kd.V_far (p:=⟨gb155,0,none⟩) (Kd.V_mono HO_160000.out (fun k_ hk => (⟨hk,hk.2.1⟩ : _ ∧ k_ ≠ gb155))) (fun _ hk => hk.2) (.slice Ao22 x160000_1.length co22)) (fun _ hk => hk.1.1),by repeat (first|(with_reducible first|exact HB.out|apply below_alloc|apply pw_below_drewN|apply below_drew1|refine below_set ?_ GE155.out|refine below_set ?_ GE159.out)|exact HB.out)⟩
   rw [if_pos c10] at H
   have c10b0 : decide (x6_1 < a1) = true:=decide_eq_true c10
   clear c10
   replace H:=Option.bind_eq_some_iff.mp H
   obtain ⟨t160,A110,H⟩:=H
   replace H : ((bursarref03_Long_times.f k1 x160000_1 t160).bind fun t163 => (bursarref03_power.l0 k1 a0 a1 (wrap64 (x6_1 + 1)) t163)) = some r:=H
   have A11:=Aside0.mk A110
   clear A110
   replace H:=Option.bind_eq_some_iff.mp H
   obtain ⟨t163,A120,H⟩:=H
   replace H : (bursarref03_power.l0 k1 a0 a1 (wrap64 (x6_1 + 1)) t163) = some r:=H
   have A12:=Aside0.mk A120
   clear A120
   have H':=Aside0.mk H
   clear H
   try go_wp2
   have n0_:=Aside0.mk (Kd.V_drew HO_160000.out)
   have n1_:=Aside0.mk (blk_drew BK155.out)
   have n2_:=Aside0.mk (blk_drew BK159.out)
   have n3_:=Aside0.mk (below_drew1 HB.out)
   clear HO_160000;clear BK155;clear BK159;clear HB;have HO_160000:=n0_;have BK155:=n1_;have BK159:=n2_;have HB:=n3_;clear n0_ n1_ n2_ n3_
   refine start_ (n:=5) (S:=fun w' => w'.cell? ⟨gb159,0,none⟩ = some (u160000)) (ds:=[4]) #[false,false,false,false,false] (by kernel_rfl) rfl rfl ((blk_cell BK159.out 0).trans rfl) (fun hHeld => ?_)
   generalize wr.drew = w13 at HO_160000 BK155 BK159 HB hHeld ⊢
   refine pure_ (i:=1) (N:=some 14) (v:=?_) (a':=?_) #[false,true,false,false,false] rfl rfl (by kernel_rfl) (fun _ _ _ h => h) (Or.inl ⟨by rfl,?_⟩) ?_ ?_
   rotate_left;·intro w';go_simp;with_reducible rfl
   rotate_left;·simp only [pu_];rfl
   refine take_ (i:=0) (N:=some 13) (v:=?_) (a':=?_) #[true,true,false,false,false] rfl rfl (by kernel_rfl) (fun _ _ _ h => h) (Or.inl ⟨by rfl,?_⟩) hHeld ?_ ?_
   rotate_left
   ·intro w' s0
    go_simp
    with_reducible rfl
   rotate_left
   ·simp only [pu_]
    rfl
   refine one_ (i:=2) (N:=some 15) #[true,true,true,false,false] rfl rfl (by kernel_rfl) (by decide) (fun K hK => ?_)
   refine goes_ Tryz.func62 (by kernel_rfl) rfl #[.int .i64 a0] (by rfl) rfl rfl (by (try simp only [List.map_toArray,List.map_cons,List.map_nil]);first|done|rfl|(simp only [List.length_drop,List.length_take];rfl)) ?_
   with_reducible refine (bursarref03_long.calls k1 a0 t160 _ A11.out).mono ?_
   rintro e w14 ⟨v161,rfl,ho0,hb⟩
   refine ⟨_,rfl,?_⟩
   have n0_:=Aside0.mk (Kd.V_elder' (by (with_reducible repeat (first|apply Kd.V_alloc|apply Kd.V_drewN|apply Kd.V_drew));exact HO_160000.out) (Kd.R_base ho0) hb)
   have n1_:=Aside0.mk (Kd.R_lower (Kd.R_newM (M:=fun k_ => (w.heap.size ≤ k_)) ho0 (below_size (by repeat (first|(with_reducible first|exact HB.out|apply below_alloc|apply pw_below_drewN|apply below_drew1|refine below_set ?_ GE155.out|refine below_set ?_ GE159.out)|exact HB.out))) (fun k_ h_ => h_)) (below_size (by repeat (first|(with_reducible first|exact HB.out|apply below_alloc|apply pw_below_drewN|apply below_drew1|refine below_set ?_ GE155.out|refine below_set ?_ GE159.out)|exact HB.out))))
   have n2_:=Aside0.mk (blk_below (g:=gb155) (o:=.cells #[.slice none 0 0] 85 (0,0)) (by (with_reducible repeat (first|refine blk_drewN ?_ _|refine blk_drew ?_|refine blk_alloc ?_ _));exact BK155.out) hb)
   have n3_:=Aside0.mk (blk_below (g:=gb159) (o:=.cells #[u160000] 85 (0,0)) (by (with_reducible repeat (first|refine blk_drewN ?_ _|refine blk_drew ?_|refine blk_alloc ?_ _));exact BK159.out) hb)
   have n4_:=Aside0.mk (below_step (by repeat (first|(with_reducible first|exact HB.out|apply below_alloc|apply pw_below_drewN|apply below_drew1|refine below_set ?_ GE155.out|refine below_set ?_ GE159.out)|exact HB.out)) hb)
   clear HO_160000;clear BK155;clear BK159;clear HB;have HO_160000:=n0_;have HO162:=n1_;have BK155:=n2_;have BK159:=n3_;have HB:=n4_;clear n0_ n1_ n2_ n3_ n4_;(try clear hb);(try clear hb2);(try clear hk);(try clear hi);(try clear ho0)
   obtain ⟨Ao15,co15,eo15⟩:=Kd.V_slice HO_160000.out
   (first|subst eo15|(injection eo15 with f1_ f2_ f3_;have f4_:=f1_.symm;have f5_:=f3_.symm;clear f1_ f2_ f3_;subst f4_;subst f5_))
   obtain ⟨Ao16,co16,eo16⟩:=Kd.R_slice HO162.out
   (first|subst eo16|(injection eo16 with f1_ f2_ f3_;have f4_:=f1_.symm;have f5_:=f3_.symm;clear f1_ f2_ f3_;subst f4_;subst f5_))
   refine hK.out _ _ ((blk_cell BK159.out 0).trans rfl) (fun hHeld => ?_)
   clear hK K
   refine norm_ (a':=?_) ?_ ?_
   rotate_left
   ·show Act.put _ (some 15) _ = _
    simp only [pu_]
    rfl
   refine one_ (i:=3) (N:=some 16) #[true,true,true,true,false] rfl rfl (by kernel_rfl) (by decide) (fun K hK => ?_)
   refine goes_ Tryz.func70 (by kernel_rfl) rfl #[.agg #[.slice Ao15 x160000_1.length co15],.agg #[.slice Ao16 t160.length co16]] (by rfl) rfl rfl (by (try simp only [List.map_toArray,List.map_cons,List.map_nil]);first|done|rfl|(simp only [List.length_drop,List.length_take];rfl)) ?_
   with_reducible refine (bursarref03_Long_times.calls k1 _ _ x160000_1 _ _ t160 t163 _ ?side1 ?side2 ?side3 ?side4 A12.out).mono ?_
   (case side1 => repeat (first|exact (Kd.V_reads' HO_160000.out).2.2|(with_reducible refine Kd.C_alloc ?_ _)|(with_reducible refine Kd.C_drewN ?_ _)|(with_reducible refine Kd.C_drew ?_)))
   (case side2 => exact (Kd.V_reads' HO_160000.out).2.1)
   (case side3 => repeat (first|exact (Kd.R_reads' HO162.out).2.2|(with_reducible refine Kd.C_alloc ?_ _)|(with_reducible refine Kd.C_drewN ?_ _)|(with_reducible refine Kd.C_drew ?_)))
   (case side4 => exact (Kd.R_reads' HO162.out).2.1)
   rintro e w17 ⟨v164,rfl,ho0,hb⟩
   refine ⟨_,rfl,?_⟩
   have n0_:=Aside0.mk (Kd.V_below (by (with_reducible repeat (first|apply Kd.V_alloc|apply Kd.V_drewN|apply Kd.V_drew));exact HO_160000.out) hb)
   have n1_:=Aside0.mk (Kd.R_below (by (with_reducible repeat (first|apply Kd.R_alloc|apply Kd.R_drewN|apply Kd.R_drew));exact HO162.out) hb)
   have n2_:=Aside0.mk (Kd.V_lower (Kd.V_mono (ok':=fun k_ => (w.heap.size ≤ k_) ∧ some k_ ≠ (.slice Ao16 t160.length co16 : Value).ownBlock ∧ k_ ≠ gb155 ∧ k_ ≠ gb159) ho0 (fun k_ hk_ => ⟨(Nat.le_trans (below_size (by repeat (first|(with_reducible first|exact HB.out|apply below_alloc|apply pw_below_drewN|apply below_drew1|refine below_set ?_ GE155.out|refine below_set ?_ GE159.out)|exact HB.out))) hk_),(Kd.fresh' (Kd.R_lt (by (with_reducible repeat (first|apply Kd.R_alloc|apply Kd.R_drewN|apply Kd.R_drew));exact HO162.out)) k_ hk_),(Kd.freshB (g:=gb155) (o:=.cells #[.slice none 0 0] 85 (0,0)) (by (with_reducible repeat (first|refine blk_drewN ?_ _|refine blk_drew ?_|refine blk_alloc ?_ _));exact BK155.out) k_ hk_),(Kd.freshB (g:=gb159) (o:=.cells #[.slice Ao15 x160000_1.length co15] 85 (0,0)) (by (with_reducible repeat (first|refine blk_drewN ?_ _|refine blk_drew ?_|refine blk_alloc ?_ _));exact BK159.out) k_ hk_)⟩)) (below_size (by repeat (first|(with_reducible first|exact HB.out|apply below_alloc|apply pw_below_drewN|apply below_drew1|refine below_set ?_ GE155.out|refine below_set ?_ GE159.out)|exact HB.out))))
   have n3_:=Aside0.mk (blk_below (g:=gb155) (o:=.cells #[.slice none 0 0] 85 (0,0)) (by (with_reducible repeat (first|refine blk_drewN ?_ _|refine blk_drew ?_|refine blk_alloc ?_ _));exact BK155.out) hb)
   have n4_:=Aside0.mk (blk_below (g:=gb159) (o:=.cells #[.slice Ao15 x160000_1.length co15] 85 (0,0)) (by (with_reducible repeat (first|refine blk_drewN ?_ _|refine blk_drew ?_|refine blk_alloc ?_ _));exact BK159.out) hb)
   have n5_:=Aside0.mk (below_step (by repeat (first|(with_reducible first|exact HB.out|apply below_alloc|apply pw_below_drewN|apply below_drew1|refine below_set ?_ GE155.out|refine below_set ?_ GE159.out)|exact HB.out)) hb)
   clear HO_160000;clear HO162;clear BK155;clear BK159;clear HB;have HO_160000:=n0_;have HO162:=n1_;have HO165:=n2_;have BK155:=n3_;have BK159:=n4_;have HB:=n5_;clear n0_ n1_ n2_ n3_ n4_ n5_;(try clear hb);(try clear hb2);(try clear hk);(try clear hi);(try clear ho0)
   obtain ⟨Ao18,co18,eo18⟩:=Kd.V_slice HO165.out
   (first|subst eo18|(injection eo18 with f1_ f2_ f3_;have f4_:=f1_.symm;have f5_:=f3_.symm;clear f1_ f2_ f3_;subst f4_;subst f5_))
   refine hK.out _ _ ((blk_cell BK159.out 0).trans rfl) (fun hHeld => ?_)
   clear hK K
   refine norm_ (a':=?_) ?_ ?_
   rotate_left
   ·show Act.put _ (some 16) _ = _
    simp only [pu_]
    rfl
   refine last_ (i:=4) (N:=none) #[true,true,true,true,true] rfl rfl (by kernel_rfl) (by decide) (fun K hK => ?_)
   have hs19 : w17.cell? ⟨gb159,0,none⟩ = some (.slice Ao15 x160000_1.length co15):=(blk_cell BK159.out 0).trans rfl
   have hfs19:=blk_frozen BK159.out 0
   have hns19_0:=NB155_159.out
   have hms19_0:=NB159_155.out
   refine skip_ (w1:=?_) (by rfl) rfl ?_ ?_
   rotate_left
   ·go_simp
    rfl
   refine hK.out _ _ ?_
   clear hK K
   refine done_ (by kernel_rfl) ?_
   try go_wp2
   go_roundg k1
   case measure => have:=HK1.out;omega
   case rel => exact ⟨(wrap64 (x6_1 + 1)),(t163),(.slice Ao18 t163.length co18),(by first|rfl|(simp;done)|(simp [*];done)|(simp;rw [Bool.eq_iff_iff];simp;done)|(rw [Bool.eq_iff_iff];simp;done)),H',⟨by have:=HK1.out;omega⟩,⟨by (with_reducible repeat (first|apply Kd.V_alloc|apply Kd.V_drewN|apply Kd.V_drew));exact Kd.V_mono (Kd.V_far (p:=⟨gb159,0,none⟩) (Kd.V_mono HO165.out (fun k_ hk => (⟨hk,hk.2.2.2⟩ : _ ∧ k_ ≠ gb159))) (fun _ hk => hk.2) (.slice Ao18 t163.length co18)) (fun _ hk => ⟨hk.1.1,⟨hk.1.2.2.1,hk.1.2.2.2⟩⟩)⟩,⟨by (with_reducible repeat (first|refine blk_drewN ?_ _|refine blk_drew ?_|refine blk_alloc ?_ _));refine blk_far ?_ NB155_159.out _;(with_reducible repeat (first|refine blk_drewN ?_ _|refine blk_drew ?_|refine blk_alloc ?_ _));exact BK155.out⟩,⟨by (with_reducible repeat (first|refine blk_drewN ?_ _|refine blk_drew ?_|refine blk_alloc ?_ _));refine blk_put (cs:=#[.slice Ao15 x160000_1.length co15]) ?_ 0 _ rfl;(with_reducible repeat (first|refine blk_drewN ?_ _|refine blk_drew ?_|refine blk_alloc ?_ _));exact BK159.out⟩,⟨by repeat (first|(with_reducible first|exact HB.out|apply below_alloc|apply pw_below_drewN|apply below_drew1|refine below_set ?_ GE155.out|refine below_set ?_ GE159.out)|exact HB.out)⟩⟩
end Go.Proofs.YtejgbdclhlolkaaGreatDoor.Q
namespace Go.Proofs.YtejgbdclhlolkaaGreatDoor.Q
open Go.RowKit Go.Proofs.YtejgbdclhlolkaaGreatDoorW.PrintWords Go.Proofs.YtejgbdclhlolkaaGreatDoorW.PrintLast Go.Proofs.YtejgbdclhlolkaaGreatDoorW.PrintMore
attribute [local go_sem] max2_int min2_int max_two min_two max_three min_three max_four min_four   -- for this text's walks alone
set_option linter.unusedVariables false
set_option linter.unusedSimpArgs false
mutual
def bursarref03_suffixes.l0 : Nat → List (S87) → Int → Option ((List (S87)))
|0,_,_ => none
|k + 1,x1,x2 => if x2 ≤ 5 then (if 0 ≤ (wrap64 (x2 - 1)) then (if (wrap64 (x2 - 1)) ≤ x2 then ((bursarref03_power.f k 1000 (wrap64 (x2 + 1))).bind fun t175 => (if x1.length < 3518437208883 then (bursarref03_suffixes.l0 k (x1 ++ [(⟨(⟨#[107,77,71,84,80]⟩ : ByteArray).extract ((wrap64 (x2 - 1)) : Int).toNat (x2 : Int).toNat,(⟨t175⟩ : S85)⟩ : S87)]) (wrap64 (x2 + 1))) else (none))) else (none)) else (none)) else (bursarref03_suffixes.l1 k x1 1)
def bursarref03_suffixes.l1 : Nat → List (S87) → Int → Option ((List (S87)))
|0,_,_ => none
|k + 1,x1,x3 => if x3 ≤ 5 then (if 0 ≤ (wrap64 (x3 - 1)) then (if (wrap64 (x3 - 1)) ≤ x3 then (if ((⟨#[75,77,71,84,80]⟩ : ByteArray).extract ((wrap64 (x3 - 1)) : Int).toNat (x3 : Int).toNat).size + 1 ≤ 9223372036854775807 then ((bursarref03_power.f k 1024 x3).bind fun t181 => ((bursarref03_long.f k 1000).bind fun t184 => ((bursarref03_Long_times.f k t181 t184).bind fun t187 => (if x1.length < 3518437208883 then (bursarref03_suffixes.l1 k (x1 ++ [(⟨((⟨#[75,77,71,84,80]⟩ : ByteArray).extract ((wrap64 (x3 - 1)) : Int).toNat (x3 : Int).toNat) ++ (⟨#[105]⟩ : ByteArray),(⟨t187⟩ : S85)⟩ : S87)]) (wrap64 (x3 + 1))) else (none))))) else (none)) else (none)) else (none)) else (some x1)
end
def bursarref03_suffixes.f (k : Nat)  : Option ((List (S87))) := (bursarref03_long.f k 1).bind fun t166 => ((bursarref03_long.f k 1000).bind fun t169 => (bursarref03_suffixes.l0 k (([(⟨(⟨#[109]⟩ : ByteArray), (⟨t166⟩ : S85)⟩ : S87), (⟨(⟨#[]⟩ : ByteArray), (⟨t169⟩ : S85)⟩ : S87)] : List (S87))) 1))
theorem bursarref03_suffixes.mono_l : ∀ k, (∀ y0 y1, LeO (bursarref03_suffixes.l0 k y0 y1) (bursarref03_suffixes.l0 (k + 1) y0 y1)) ∧ (∀ y0 y1, LeO (bursarref03_suffixes.l1 k y0 y1) (bursarref03_suffixes.l1 (k + 1) y0 y1))
|0 => ⟨fun _ _ r h => by simp [bursarref03_suffixes.l0] at h,fun _ _ r h => by simp [bursarref03_suffixes.l1] at h⟩
|k + 1 => by
  obtain ⟨ih0,ih1⟩:=bursarref03_suffixes.mono_l k
  refine ⟨?_,?_⟩
  ·intro y0 y1
   unfold bursarref03_suffixes.l0
   repeat' first
  |(with_reducible exact ih0 _ _)
  |(with_reducible exact ih1 _ _)
  |(with_reducible exact bursarref03_Long_times.mono _ _ _)
  |(with_reducible exact bursarref03_long.mono _ _)
  |(with_reducible exact bursarref03_power.mono _ _ _)
  |(with_reducible exact LeO.refl _)
  |(with_reducible exact LeO.none _)
  |(with_reducible refine LeO.ite ?_ ?_)
  |(with_reducible refine LeO.bind ?_ (fun _ => ?_))
  |exact ih0 _ _
  |exact ih1 _ _
  |exact bursarref03_Long_times.mono _ _ _
  |exact bursarref03_long.mono _ _
  |exact bursarref03_power.mono _ _ _
  |exact LeO.none _
  |refine LeO.ite ?_ ?_
  |refine LeO.bind ?_ (fun _ => ?_)
  ·intro y0 y1
   unfold bursarref03_suffixes.l1
   repeat' first
  |(with_reducible exact ih0 _ _)
  |(with_reducible exact ih1 _ _)
  |(with_reducible exact bursarref03_Long_times.mono _ _ _)
  |(with_reducible exact bursarref03_long.mono _ _)
  |(with_reducible exact bursarref03_power.mono _ _ _)
  |(with_reducible exact LeO.refl _)
  |(with_reducible exact LeO.none _)
  |(with_reducible refine LeO.ite ?_ ?_)
  |(with_reducible refine LeO.bind ?_ (fun _ => ?_))
  |exact ih0 _ _
  |exact ih1 _ _
  |exact bursarref03_Long_times.mono _ _ _
  |exact bursarref03_long.mono _ _
  |exact bursarref03_power.mono _ _ _
  |exact LeO.none _
  |refine LeO.ite ?_ ?_
  |refine LeO.bind ?_ (fun _ => ?_)
theorem bursarref03_suffixes.mono : ∀ k, LeO (bursarref03_suffixes.f k ) (bursarref03_suffixes.f (k + 1) ) := by
 intro  k
 obtain ⟨ih0,ih1⟩:=bursarref03_suffixes.mono_l k
 unfold bursarref03_suffixes.f
 repeat' first
  |(with_reducible exact ih0 _ _)
  |(with_reducible exact ih1 _ _)
  |(with_reducible exact bursarref03_Long_times.mono _ _ _)
  |(with_reducible exact bursarref03_long.mono _ _)
  |(with_reducible exact bursarref03_power.mono _ _ _)
  |(with_reducible exact LeO.refl _)
  |(with_reducible exact LeO.none _)
  |(with_reducible refine LeO.ite ?_ ?_)
  |(with_reducible refine LeO.bind ?_ (fun _ => ?_))
  |exact ih0 _ _
  |exact ih1 _ _
  |exact bursarref03_Long_times.mono _ _ _
  |exact bursarref03_long.mono _ _
  |exact bursarref03_power.mono _ _ _
  |exact LeO.none _
  |refine LeO.ite ?_ ?_
  |refine LeO.bind ?_ (fun _ => ?_)
def bursarref03_suffixes.T5 : Bool × List (List Nat × List Nat) := (true, [([], []), ([], []), ([1], [1]), ([], []), ([2, 3], [2, 3]), ([], []), ([5], [5]), ([6], [6]), ([4, 7], [4, 7]), ([8], [8]), ([0, 9, 7], [0, 9]), ([10, 10, 0, 1, 2, 3, 4, 5, 6, 7, 8, 9, 10], [0, 10])])
def bursarref03_suffixes.B5 : List Nat := [0, 0, 2, 0, 14, 0, 32, 96, 254, 510, 1023, 2047]
theorem bursarref03_suffixes.tab5 : rtab .any (opsOf Tryz.f59 5) = bursarref03_suffixes.T5 := by kernel_rfl
theorem bursarref03_suffixes.bits5 : waitsOk bursarref03_suffixes.T5.2 bursarref03_suffixes.B5 = true := by kernel_rfl
def bursarref03_suffixes.T9 : Bool × List (List Nat × List Nat) := (true, [([], []), ([], []), ([1], [1]), ([], []), ([2, 3], [2, 3]), ([4], [4]), ([], []), ([6], [6]), ([7], []), ([7, 8, 8], [7, 8]), ([5, 9], [5, 9]), ([10], [10]), ([0, 11, 9], [0, 11]), ([12, 12, 0, 1, 2, 3, 4, 5, 6, 7, 8, 9, 10, 11, 12], [0, 12])])
def bursarref03_suffixes.B9 : List Nat := [0, 0, 2, 0, 14, 30, 0, 64, 192, 448, 1022, 2046, 4095, 8191]
theorem bursarref03_suffixes.tab9 : rtab .any (opsOf Tryz.f59 9) = bursarref03_suffixes.T9 := by kernel_rfl
theorem bursarref03_suffixes.bits9 : waitsOk bursarref03_suffixes.T9.2 bursarref03_suffixes.B9 = true := by kernel_rfl
set_option maxHeartbeats 8000000 in
set_option maxRecDepth 100000 in
theorem bursarref03_suffixes.calls (k : Nat)  (r : List (S87)) (w : World) (h : bursarref03_suffixes.f k  = some r) :
  Calls Tryz.prog 59 #[] w fun e w' => ∃ v0_ : Value,e = .returned (v0_) ∧ Kd.N k87 87 w' w.heap.size (fun k_ => (w.heap.size ≤ k_)) v0_ r ∧ Below w.heap.size w w':=by
 have hu87:=Tryz.underlying87
 have HB:=Aside0.mk (Below.refl w.heap.size w)
 have H : ((bursarref03_long.f k 1).bind fun t166 => ((bursarref03_long.f k 1000).bind fun t169 => (bursarref03_suffixes.l0 k (([(⟨(⟨#[109]⟩ : ByteArray),(⟨t166⟩ : S85)⟩ : S87),(⟨(⟨#[]⟩ : ByteArray),(⟨t169⟩ : S85)⟩ : S87)] : List (S87))) 1))) = some r:=h
 clear h
 replace H:=Option.bind_eq_some_iff.mp H
 obtain ⟨t166,A10,H⟩:=H
 replace H : ((bursarref03_long.f k 1000).bind fun t169 => (bursarref03_suffixes.l0 k (([(⟨(⟨#[109]⟩ : ByteArray),(⟨t166⟩ : S85)⟩ : S87),(⟨(⟨#[]⟩ : ByteArray),(⟨t169⟩ : S85)⟩ : S87)] : List (S87))) 1)) = some r:=H
 have A1:=Aside0.mk A10
 clear A10
 replace H:=Option.bind_eq_some_iff.mp H
 obtain ⟨t169,A20,H⟩:=H
 replace H : (bursarref03_suffixes.l0 k (([(⟨(⟨#[109]⟩ : ByteArray),(⟨t166⟩ : S85)⟩ : S87),(⟨(⟨#[]⟩ : ByteArray),(⟨t169⟩ : S85)⟩ : S87)] : List (S87))) 1) = some r:=H
 have A2:=Aside0.mk A20
 clear A20
 obtain ⟨y172,hy172⟩ : ∃ y_ : List (S87),y_ = (([(⟨(⟨#[109]⟩ : ByteArray),(⟨t166⟩ : S85)⟩ : S87),(⟨(⟨#[]⟩ : ByteArray),(⟨t169⟩ : S85)⟩ : S87)] : List (S87))):=⟨_,rfl⟩
 replace H : (bursarref03_suffixes.l0 k y172 1) = some r:=by first|(rw [hy172];with_reducible exact H)|(have H2_:=(Option.bind_some _ _).symm.trans H;rw [hy172];with_reducible exact H2_)|(have H2_:=(Option.bind_some _ _).symm.trans H;with_reducible exact H2_)|with_reducible exact H|(rw [hy172];exact H)|exact H
 have Ny172:=Aside0.mk hy172
 clear hy172
 have H':=Aside0.mk H
 clear H
 go_enter Tryz.func59,Tryz.ntmps59
 go_wp2_with (first|((with_reducible refine gate_callee (f:=62) rfl ?_);refine goesL_ (some 4) rfl rfl Tryz.func62 (by kernel_rfl) rfl #[.int .i64 1] rfl (by (try simp only [List.map_toArray,List.map_cons,List.map_nil]);first|done|rfl|(simp only [List.length_drop,List.length_take];rfl)) ?_;(with_reducible refine (bursarref03_long.calls k 1 t166 _ A1.out).mono ?_);rintro e w3 ⟨v167,rfl,ho0,hb⟩;refine ⟨_,rfl,?_⟩;have n0_:=Aside0.mk (Kd.R_lower (Kd.R_newM (M:=fun k_ => (w.heap.size ≤ k_)) ho0 (below_size (by repeat (first|(with_reducible first|exact HB.out|apply below_alloc|apply pw_below_drewN|apply below_drew1)|exact HB.out))) (fun k_ h_ => h_)) (below_size (by repeat (first|(with_reducible first|exact HB.out|apply below_alloc|apply pw_below_drewN|apply below_drew1)|exact HB.out))));have n1_:=Aside0.mk (below_step (by repeat (first|(with_reducible first|exact HB.out|apply below_alloc|apply pw_below_drewN|apply below_drew1)|exact HB.out)) hb);clear HB;have HO168:=n0_;have HB:=n1_;clear n0_ n1_;(try clear hb);(try clear hb2);(try clear hk);(try clear hi);(try clear ho0);obtain ⟨Ao4,co4,eo4⟩:=Kd.R_slice HO168.out;subst eo4)|((with_reducible refine gate_callee (f:=62) rfl ?_);refine goesL_ (some 6) rfl rfl Tryz.func62 (by kernel_rfl) rfl #[.int .i64 1000] rfl (by (try simp only [List.map_toArray,List.map_cons,List.map_nil]);first|done|rfl|(simp only [List.length_drop,List.length_take];rfl)) ?_;(with_reducible refine (bursarref03_long.calls k 1000 t169 _ A2.out).mono ?_);rintro e w5 ⟨v170,rfl,ho0,hb⟩;refine ⟨_,rfl,?_⟩;have n0_:=Aside0.mk (Kd.R_elder' (by (with_reducible repeat (first|apply Kd.R_alloc|apply Kd.R_drewN|apply Kd.R_drew));exact HO168.out) (Kd.R_base ho0) hb);have n1_:=Aside0.mk (Kd.R_lower (Kd.R_new' (Kd.R_newM (M:=fun k_ => (w.heap.size ≤ k_)) ho0 (below_size (by repeat (first|(with_reducible first|exact HB.out|apply below_alloc|apply pw_below_drewN|apply below_drew1)|exact HB.out))) (fun k_ h_ => h_)) (Kd.R_lt (by (with_reducible repeat (first|apply Kd.R_alloc|apply Kd.R_drewN|apply Kd.R_drew));exact HO168.out))) (below_size (by repeat (first|(with_reducible first|exact HB.out|apply below_alloc|apply pw_below_drewN|apply below_drew1)|exact HB.out))));have n2_:=Aside0.mk (below_step (by repeat (first|(with_reducible first|exact HB.out|apply below_alloc|apply pw_below_drewN|apply below_drew1)|exact HB.out)) hb);clear HO168;clear HB;have HO168:=n0_;have HO171:=n1_;have HB:=n2_;clear n0_ n1_ n2_;(try clear hb);(try clear hb2);(try clear hk);(try clear hi);(try clear ho0);obtain ⟨Ao6,co6,eo6⟩:=Kd.R_slice HO171.out;subst eo6)|((with_reducible refine gate_dst (N:=8) rfl ?_);refine Kd.N_lit k87 _ 87 ?hg (N':=8) ?hd (xs:=([(⟨(⟨#[109]⟩ : ByteArray),(⟨t166⟩ : S85)⟩ : S87),(⟨(⟨#[]⟩ : ByteArray),(⟨t169⟩ : S85)⟩ : S87)] : List (S87))) (inner:=[.string (⟨#[109]⟩ : ByteArray),.slice Ao4 t166.length co4,.string (⟨#[]⟩ : ByteArray),.slice Ao6 t169.length co6]) (ok:=(fun k_ => (w.heap.size ≤ k_))) (okp:=(fun k_ => (w.heap.size ≤ k_))) ?hr ?hp (fun _ hk => hk) ((show ∀ k_,w5.heap.size ≤ k_ → (fun k_ => (w.heap.size ≤ k_)) k_ from fun k_ hk => (Nat.le_trans (below_size (by repeat (first|(with_reducible first|exact HB.out|apply below_alloc|apply pw_below_drewN|apply below_drew1)|exact HB.out))) hk)) _ (Nat.le_refl _)) (Below.refl _ _) (Nat.le_refl _) (by simp) ?_;(case hd => rfl);(case hg => rfl);(case hr => first|(go_simp;done)|(go_simp;rfl));(case hp => exact (Reps.c2 (show Kd.FK k87 _ _ (⟨(⟨#[109]⟩ : ByteArray),(⟨t166⟩ : S85)⟩ : S87) [.string (⟨#[109]⟩ : ByteArray),.slice Ao4 t166.length co4] from (k87_mkF _ _ (⟨(⟨#[109]⟩ : ByteArray),(⟨t166⟩ : S85)⟩ : S87) (Kd.R_reads' (Kd.R_mono (ok':=(fun k_ => (w.heap.size ≤ k_))) (HO168.out) (fun k_ hk => hk.1.1))).2.1 (Kd.R_F (Kd.R_mono (ok':=(fun k_ => (w.heap.size ≤ k_))) (HO168.out) (fun k_ hk => hk.1.1))))) (Reps.c2 (show Kd.FK k87 _ _ (⟨(⟨#[]⟩ : ByteArray),(⟨t169⟩ : S85)⟩ : S87) [.string (⟨#[]⟩ : ByteArray),.slice Ao6 t169.length co6] from (k87_mkF _ _ (⟨(⟨#[]⟩ : ByteArray),(⟨t169⟩ : S85)⟩ : S87) (Kd.R_reads' (Kd.R_mono (ok':=(fun k_ => (w.heap.size ≤ k_))) (HO171.out) (fun k_ hk => hk.1.1))).2.1 (Kd.R_F (Kd.R_mono (ok':=(fun k_ => (w.heap.size ≤ k_))) (HO171.out) (fun k_ hk => hk.1.1))))) (Reps.none _ _))));intro v173 w7 ho8 hb hg_ hnew_;clear hg_ hnew_;(first|rw [← Ny172.out] at ho8|(simp only [Int.reduceToNat] at ho8;rw [← Ny172.out] at ho8));have n0_:=Aside0.mk (Kd.N_lower ho8 (below_size (by repeat (first|(with_reducible first|exact HB.out|apply below_alloc|apply pw_below_drewN|apply below_drew1)|exact HB.out))));have n1_:=Aside0.mk (below_step (by repeat (first|(with_reducible first|exact HB.out|apply below_alloc|apply pw_below_drewN|apply below_drew1)|exact HB.out)) hb);clear HB;clear HO168;clear HO171;have HO174:=n0_;have HB:=n1_;clear n0_ n1_;clear hb ho8))
 go_loopg [1,2] k (fun kq v1 v2 w' => ∃ (x1_1 : List (S87)) (x2_1 : Int),v2 = .int .i64 x2_1 ∧ Aside0 (bursarref03_suffixes.l0 kq x1_1 x2_1 = some r) ∧ Aside0 (kq ≤ k) ∧ Aside0 (Kd.N k87 87 w' w.heap.size (fun k_ => (w.heap.size ≤ k_)) v1 x1_1) ∧ Aside0 (Below w.heap.size w w'))
 case atStart => exact ⟨(y172),(1),(by first|rfl|(simp;done)|(simp [*];done)|(simp;rw [Bool.eq_iff_iff];simp;done)|(rw [Bool.eq_iff_iff];simp;done)),H',⟨Nat.le_refl _⟩,⟨by (with_reducible repeat (first|apply Kd.N_alloc|apply Kd.N_drewN|apply Kd.N_drew));exact HO174.out⟩,⟨by repeat (first|(with_reducible first|exact HB.out|apply below_alloc|apply pw_below_drewN|apply below_drew1)|exact HB.out)⟩⟩
 case round =>
  clear H';(try clear c2);(try clear p2);(try clear c5);(try clear c6)
  obtain ⟨x1_1,x2_1,rfl,HA,HK1,HO_1,HB⟩:=hrel
  cases gk with
 |zero => exact absurd HA.out (by simp [bursarref03_suffixes.l0])
 |succ k1 =>
   have H:=HA.out
   clear HA
   simp only [bursarref03_suffixes.l0] at H
   by_cases c9 : x2_1 ≤ 5
   ·rw [if_pos c9] at H
    have c9b0 : decide (x2_1 ≤ 5) = true:=decide_eq_true c9
    clear c9
    obtain ⟨ji10,hji10⟩ : ∃ j_ : Int,(wrap64 (x2_1 - 1)) = j_:=⟨_,rfl⟩
    replace H : (if 0 ≤ (ji10) then (if (ji10) ≤ x2_1 then ((bursarref03_power.f k1 1000 (wrap64 (x2_1 + 1))).bind fun t175 => (if x1_1.length < 3518437208883 then (bursarref03_suffixes.l0 k1 (x1_1 ++ [(⟨(⟨#[107,77,71,84,80]⟩ : ByteArray).extract ((ji10) : Int).toNat (x2_1 : Int).toNat,(⟨t175⟩ : S85)⟩ : S87)]) (wrap64 (x2_1 + 1))) else (none))) else (none)) else (none)) = some r:=by first|(rw [hji10] at H;exact H)|(simp only [hji10] at H ⊢;exact H)
    have hji10w : (IntKind.i64.wrap (x2_1 - 1)) = ji10:=(i64_w _).trans hji10
    by_cases c11 : 0 ≤ (ji10)
    rotate_left
    ·rw [if_neg c11] at H
     exact absurd H (by simp)
    rw [if_pos c11] at H
    have c11b0:=eq_true c11
    have c11b1 : decide (0 ≤ (ji10)) = true:=decide_eq_true c11
    clear c11
    by_cases c12 : (ji10) ≤ x2_1
    rotate_left
    ·rw [if_neg c12] at H
     exact absurd H (by simp)
    rw [if_pos c12] at H
    have c12b0:=eq_true c12
    have c12b1 : decide ((ji10) ≤ x2_1) = true:=decide_eq_true c12
    clear c12
    have c13b0:=eq_true (of_decide_eq_true (by first|(with_reducible assumption)|assumption) : x2_1 ≤ 5)
    replace H:=Option.bind_eq_some_iff.mp H
    obtain ⟨t175,A140,H⟩:=H
    replace H : (if x1_1.length < 3518437208883 then (bursarref03_suffixes.l0 k1 (x1_1 ++ [(⟨(⟨#[107,77,71,84,80]⟩ : ByteArray).extract ((ji10) : Int).toNat (x2_1 : Int).toNat,(⟨t175⟩ : S85)⟩ : S87)]) (wrap64 (x2_1 + 1))) else (none)) = some r:=H
    have A14:=Aside0.mk A140
    clear A140
    by_cases c15 : x1_1.length < 3518437208883
    rotate_left
    ·rw [if_neg c15] at H
     exact absurd H (by simp)
    rw [if_pos c15] at H
    have LMc15:=Aside0.mk c15
    clear c15
    obtain ⟨y178,hy178⟩ : ∃ y_ : List (S87),y_ = (x1_1 ++ [(⟨(⟨#[107,77,71,84,80]⟩ : ByteArray).extract ((ji10) : Int).toNat (x2_1 : Int).toNat,(⟨t175⟩ : S85)⟩ : S87)]):=⟨_,rfl⟩
    replace H : (bursarref03_suffixes.l0 k1 y178 (wrap64 (x2_1 + 1))) = some r:=by first|(rw [hy178];with_reducible exact H)|(have H2_:=(Option.bind_some _ _).symm.trans H;rw [hy178];with_reducible exact H2_)|(have H2_:=(Option.bind_some _ _).symm.trans H;with_reducible exact H2_)|with_reducible exact H|(rw [hy178];exact H)|exact H
    have Ny178:=Aside0.mk hy178
    clear hy178
    have H':=Aside0.mk H
    clear H
    try go_wp2
    have n0_:=Aside0.mk (Kd.N_drew HO_1.out)
    have n1_:=Aside0.mk (below_drew1 HB.out)
    clear HO_1;clear HB;have HO_1:=n0_;have HB:=n1_;clear n0_ n1_
    refine start_ (n:=12) (S:=fun w' => True) (ds:=[]) #[false,false,false,false,false,false,false,false,false,false,false,false] (by kernel_rfl) rfl rfl trivial (fun hHeld => ?_);refine with_tabW bursarref03_suffixes.tab5 bursarref03_suffixes.bits5 (fun HT_ HW_ => ?_)
    generalize wr.drew = w16 at HO_1 HB hHeld ⊢
    refine pure_ (i:=0) (N:=some 13) (v:=?_) (a':=?_) #[true,false,false,false,false,false,false,false,false,false,false,false] rfl rfl (any_of HT_.out (by kernel_rfl)) (fun _ _ _ h => h) (Or.inl ⟨by rfl,?_⟩) ?_ ?_
    rotate_left;·intro w';go_simp;with_reducible rfl
    rotate_left;·simp only [pu_];rfl
    refine pure_ (i:=1) (N:=some 14) (v:=?_) (a':=?_) #[true,true,false,false,false,false,false,false,false,false,false,false] rfl rfl (any_of HT_.out (by kernel_rfl)) (fun _ _ _ h => h) (Or.inl ⟨by rfl,?_⟩) ?_ ?_
    rotate_left;·intro w';go_simp;with_reducible rfl
    rotate_left;·simp only [pu_];rfl
    refine pure_ (i:=2) (N:=some 15) (v:=?_) (a':=?_) #[true,true,true,false,false,false,false,false,false,false,false,false] rfl rfl (any_of HT_.out (by kernel_rfl)) (fun _ _ _ h => h) (Or.inl ⟨by rfl,?_⟩) ?_ ?_
    rotate_left;·intro w';go_simp;with_reducible rfl
    rotate_left;·simp only [pu_];rfl
    refine pure_ (i:=3) (N:=some 16) (v:=?_) (a':=?_) #[true,true,true,true,false,false,false,false,false,false,false,false] rfl rfl (any_of HT_.out (by kernel_rfl)) (fun _ _ _ h => h) (Or.inl ⟨by rfl,?_⟩) ?_ ?_
    rotate_left;·intro w';go_simp;with_reducible rfl
    rotate_left;·simp only [pu_];rfl
    refine pure_ (i:=4) (N:=some 17) (v:=?_) (a':=?_) #[true,true,true,true,true,false,false,false,false,false,false,false] rfl rfl (any_of HT_.out (by kernel_rfl)) (fun _ _ _ h => h) (Or.inl ⟨by rfl,?_⟩) ?_ ?_
    rotate_left;·intro w';go_simp;with_reducible rfl
    rotate_left;·simp only [pu_];rfl
    refine pure_ (i:=5) (N:=some 18) (v:=?_) (a':=?_) #[true,true,true,true,true,true,false,false,false,false,false,false] rfl rfl (any_of HT_.out (by kernel_rfl)) (fun _ _ _ h => h) (Or.inl ⟨by rfl,?_⟩) ?_ ?_
    rotate_left;·intro w';go_simp;with_reducible rfl
    rotate_left;·simp only [pu_];rfl
    refine pure_ (i:=6) (N:=some 19) (v:=?_) (a':=?_) #[true,true,true,true,true,true,true,false,false,false,false,false] rfl rfl (any_of HT_.out (by kernel_rfl)) (fun _ _ _ h => h) (Or.inl ⟨by rfl,?_⟩) ?_ ?_
    rotate_left;·intro w';go_simp;with_reducible rfl
    rotate_left;·simp only [pu_];rfl
    refine one_ (i:=7) (N:=some 20) #[true,true,true,true,true,true,true,true,false,false,false,false] rfl rfl (one_of HT_.out (by kernel_rfl)) (by decide) (fun K hK => ?_)
    refine goes_ Tryz.func83 (by kernel_rfl) rfl #[.int .i64 1000,.int .i64 (wrap64 (x2_1 + 1))] (by rfl) rfl rfl (by (try simp only [List.map_toArray,List.map_cons,List.map_nil]);first|done|rfl|(simp only [List.length_drop,List.length_take];rfl)) ?_
    with_reducible refine (bursarref03_power.calls k1 1000 (wrap64 (x2_1 + 1)) t175 _ A14.out).mono ?_
    rintro e w17 ⟨v176,rfl,ho0,hb⟩
    refine ⟨_,rfl,?_⟩
    have n0_:=Aside0.mk (Kd.N_below (by (with_reducible repeat (first|apply Kd.N_alloc|apply Kd.N_drewN|apply Kd.N_drew));exact HO_1.out) hb)
    have n1_:=Aside0.mk (Kd.V_lower (Kd.V_mono (ok':=fun k_ => (w.heap.size ≤ k_) ∧ some k_ ≠ (u1 : Value).ownBlock) ho0 (fun k_ hk_ => ⟨(Nat.le_trans (below_size (by repeat (first|(with_reducible first|exact HB.out|apply below_alloc|apply pw_below_drewN|apply below_drew1)|exact HB.out))) hk_),(Kd.fresh' (Kd.N_lt (by (with_reducible repeat (first|apply Kd.N_alloc|apply Kd.N_drewN|apply Kd.N_drew));exact HO_1.out)) k_ hk_)⟩)) (below_size (by repeat (first|(with_reducible first|exact HB.out|apply below_alloc|apply pw_below_drewN|apply below_drew1)|exact HB.out))))
    have n2_:=Aside0.mk (below_step (by repeat (first|(with_reducible first|exact HB.out|apply below_alloc|apply pw_below_drewN|apply below_drew1)|exact HB.out)) hb)
    clear HO_1;clear HB;have HO_1:=n0_;have HO177:=n1_;have HB:=n2_;clear n0_ n1_ n2_;(try clear hb);(try clear hb2);(try clear hk);(try clear hi);(try clear ho0)
    obtain ⟨Ao18,co18,eo18⟩:=Kd.V_slice HO177.out
    (first|subst eo18|(injection eo18 with f1_ f2_ f3_;have f4_:=f1_.symm;have f5_:=f3_.symm;clear f1_ f2_ f3_;subst f4_;subst f5_))
    refine hK.out _ _ trivial (fun hHeld => ?_)
    clear hK K
    refine norm_ (a':=?_) ?_ ?_
    rotate_left
    ·show Act.put _ (some 20) _ = _
     simp only [pu_]
     rfl
    refine pure_ (i:=8) (N:=some 21) (v:=?_) (a':=?_) #[true,true,true,true,true,true,true,true,true,false,false,false] rfl rfl (any_of HT_.out (by kernel_rfl)) (fun _ _ _ h => h) (Or.inl ⟨by rfl,?_⟩) ?_ ?_
    rotate_left;·intro w';go_simp;with_reducible rfl
    rotate_left;·simp only [pu_];rfl
    refine one_ (i:=9) (N:=some 22) #[true,true,true,true,true,true,true,true,true,true,false,false] rfl rfl (one_of HT_.out (by kernel_rfl)) (by decide) (fun K hK => ?_)
    refine value_ (w1:=?_) (v:=?_) (by rfl) rfl ?_ ?_
    rotate_left 2
    ·go_simp
     constructor
     ·rfl
     ·rfl
    refine hK.out _ _ trivial (fun hHeld => ?_)
    clear hK K
    refine norm_ (a':=?_) ?_ ?_
    rotate_left
    ·show Act.put _ (some 22) _ = _
     simp only [pu_]
     rfl
    refine one_ (i:=10) (N:=some 23) #[true,true,true,true,true,true,true,true,true,true,true,false] rfl rfl (one_of HT_.out (by kernel_rfl)) (by decide) (fun K hK => ?_)
    refine Kd.N_append_step k87 (w0:=w) w.heap.size (by rfl) (.tmp 13) (.tmp 22) 82 87 (.agg #[(.string ⟨#[]⟩),(.slice none 0 0)]) 40 rfl Tryz.underlying82 info87 rfl (by decide) (by omega) u1 x1_1 (⟨(⟨#[107,77,71,84,80]⟩ : ByteArray).extract ((ji10) : Int).toNat (x2_1 : Int).toNat,(⟨t175⟩ : S85)⟩ : S87) [.string ((⟨#[107,77,71,84,80]⟩ : ByteArray).extract ((ji10) : Int).toNat (x2_1 : Int).toNat),.slice Ao18 t175.length co18] (fun k_ => (w.heap.size ≤ k_)) (fun k_ => ((fun k_ => (w.heap.size ≤ k_))) k_ ∧ some k_ ≠ (u1 : Value).ownBlock) rfl rfl ?aP (fun _ hk => hk) ?aF ?aO ?aB ?aS ?aL ?_
    (case aP => exact (k87_mkF _ _ (⟨(⟨#[107,77,71,84,80]⟩ : ByteArray).extract ((ji10) : Int).toNat (x2_1 : Int).toNat,(⟨t175⟩ : S85)⟩ : S87) (Kd.V_reads' (Kd.V_mono (ok':=(fun k_ => ((fun k_ => (w.heap.size ≤ k_))) k_ ∧ some k_ ≠ (u1 : Value).ownBlock)) (HO177.out) (fun k_ hk => ⟨hk.1,hk.2⟩))).2.1 (Kd.V_F (Kd.V_mono (ok':=(fun k_ => ((fun k_ => (w.heap.size ≤ k_))) k_ ∧ some k_ ≠ (u1 : Value).ownBlock)) (HO177.out) (fun k_ hk => ⟨hk.1,hk.2⟩)))))
    (case aB => exact (by repeat (first|(with_reducible first|exact HB.out|apply below_alloc|apply pw_below_drewN|apply below_drew1)|exact HB.out)))
    (case aF => exact (fun k_ hk => (Nat.le_trans (below_size (by repeat (first|(with_reducible first|exact HB.out|apply below_alloc|apply pw_below_drewN|apply below_drew1)|exact HB.out))) hk)))
    (case aO => exact (by (with_reducible repeat (first|apply Kd.N_alloc|apply Kd.N_drewN|apply Kd.N_drew));exact HO_1.out))
    (case aS => exact (below_size (by repeat (first|(with_reducible first|exact HB.out|apply below_alloc|apply pw_below_drewN|apply below_drew1)|exact HB.out))))
    (case aL => have:=LMc15.out;omega)
    intro v179 w19 ho hb hg hat
    rw [← Ny178.out] at ho
    have n0_:=Aside0.mk (Kd.V_afterv (ok:=(fun k_ => (w.heap.size ≤ k_))) (by (with_reducible repeat (first|apply Kd.V_alloc|apply Kd.V_drewN|apply Kd.V_drew));exact HO177.out) hg hat)
    have n1_:=Aside0.mk (hb)
    have n2_:=Aside0.mk (ho)
    clear HO177;clear HB;clear HO_1;have HO177:=n0_;have HB:=n1_;have HO180:=n2_;clear n0_ n1_ n2_;clear ho hb hg hat
    refine hK.out _ _ trivial (fun hHeld => ?_)
    clear hK K
    refine norm_ (a':=?_) ?_ ?_
    rotate_left
    ·show Act.put _ (some 23) _ = _
     simp only [pu_]
     rfl
    refine pure_ (i:=11) (N:=some 1) (v:=?_) (a':=?_) #[true,true,true,true,true,true,true,true,true,true,true,true] rfl rfl (any_of HT_.out (by kernel_rfl)) (fun _ _ _ h => h) (Or.inl ⟨by rfl,?_⟩) ?_ ?_
    rotate_left;·intro w';go_simp;with_reducible rfl
    rotate_left;·simp only [pu_];rfl
    refine done_ (done_of HT_.out (by kernel_rfl)) ?_
    try go_wp2
    go_roundg k1
    case measure => have:=HK1.out;omega
    case rel => exact ⟨(y178),(wrap64 (x2_1 + 1)),(by first|rfl|(simp;done)|(simp [*];done)|(simp;rw [Bool.eq_iff_iff];simp;done)|(rw [Bool.eq_iff_iff];simp;done)),H',⟨by have:=HK1.out;omega⟩,⟨by (with_reducible repeat (first|apply Kd.N_alloc|apply Kd.N_drewN|apply Kd.N_drew));exact HO180.out⟩,⟨by repeat (first|(with_reducible first|exact HB.out|apply below_alloc|apply pw_below_drewN|apply below_drew1)|exact HB.out)⟩⟩
   rw [if_neg c9] at H
   have c9b0 : decide (x2_1 ≤ 5) = false:=decide_eq_false c9
   clear c9
   have H':=Aside0.mk H
   clear H
   go_wp2
   go_loopg [1,3] k1 (fun kq v1 v3 w' => ∃ (x1_2 : List (S87)) (x3_2 : Int),v3 = .int .i64 x3_2 ∧ Aside0 (bursarref03_suffixes.l1 kq x1_2 x3_2 = some r) ∧ Aside0 (kq ≤ k1) ∧ Aside0 (Kd.N k87 87 w' w.heap.size (fun k_ => (w.heap.size ≤ k_)) v1 x1_2) ∧ Aside0 (Below w.heap.size w w'))
   case atStart => exact ⟨(x1_1),(1),(by first|rfl|(simp;done)|(simp [*];done)|(simp;rw [Bool.eq_iff_iff];simp;done)|(rw [Bool.eq_iff_iff];simp;done)),H',⟨Nat.le_refl _⟩,⟨by (with_reducible repeat (first|apply Kd.N_alloc|apply Kd.N_drewN|apply Kd.N_drew));exact HO_1.out⟩,⟨by repeat (first|(with_reducible first|exact HB.out|apply below_alloc|apply pw_below_drewN|apply below_drew1)|exact HB.out)⟩⟩
   case round =>
    clear H';(try clear c1);(try clear c2);(try clear p2);(try clear c5);(try clear c6);(try clear p6);(try clear c8);(try clear c9);(try clear c9b0);(try clear c11);(try clear c11b0);(try clear c11b1);(try clear c12);(try clear c12b0);(try clear c12b1);(try clear c13);(try clear c13b0);(try clear c15);(try clear p2)
    obtain ⟨x1_2,x3_2,rfl,HA,HK2,HO_1,HB⟩:=hrel
    cases gk with
   |zero => exact absurd HA.out (by simp [bursarref03_suffixes.l1])
   |succ k2 =>
     have H:=HA.out
     clear HA
     simp only [bursarref03_suffixes.l1] at H
     by_cases c20 : x3_2 ≤ 5
     rotate_left
     ·rw [if_neg c20] at H
      have c20b0 : decide (x3_2 ≤ 5) = false:=decide_eq_false c20
      clear c20
      obtain rfl:=Option.some.inj H
      go_wp2
      go_ret
      exact ⟨_,by first|rfl|(simp [errW_none,errW_some] <;> rfl)|(simp [*,errW_none,errW_some] <;> rfl),by (with_reducible repeat (first|apply Kd.N_alloc|apply Kd.N_drewN|apply Kd.N_drew));exact HO_1.out,by repeat (first|(with_reducible first|exact HB.out|apply below_alloc|apply pw_below_drewN|apply below_drew1)|exact HB.out)⟩
     rw [if_pos c20] at H
     have c20b0 : decide (x3_2 ≤ 5) = true:=decide_eq_true c20
     clear c20
     obtain ⟨ji21,hji21⟩ : ∃ j_ : Int,(wrap64 (x3_2 - 1)) = j_:=⟨_,rfl⟩
     replace H : (if 0 ≤ (ji21) then (if (ji21) ≤ x3_2 then (if ((⟨#[75,77,71,84,80]⟩ : ByteArray).extract ((ji21) : Int).toNat (x3_2 : Int).toNat).size + 1 ≤ 9223372036854775807 then ((bursarref03_power.f k2 1024 x3_2).bind fun t181 => ((bursarref03_long.f k2 1000).bind fun t184 => ((bursarref03_Long_times.f k2 t181 t184).bind fun t187 => (if x1_2.length < 3518437208883 then (bursarref03_suffixes.l1 k2 (x1_2 ++ [(⟨((⟨#[75,77,71,84,80]⟩ : ByteArray).extract ((ji21) : Int).toNat (x3_2 : Int).toNat) ++ (⟨#[105]⟩ : ByteArray),(⟨t187⟩ : S85)⟩ : S87)]) (wrap64 (x3_2 + 1))) else (none))))) else (none)) else (none)) else (none)) = some r:=by first|(rw [hji21] at H;exact H)|(simp only [hji21] at H ⊢;exact H)
     have hji21w : (IntKind.i64.wrap (x3_2 - 1)) = ji21:=(i64_w _).trans hji21
     by_cases c22 : 0 ≤ (ji21)
     rotate_left
     ·rw [if_neg c22] at H
      exact absurd H (by simp)
     rw [if_pos c22] at H
     have c22b0:=eq_true c22
     have c22b1 : decide (0 ≤ (ji21)) = true:=decide_eq_true c22
     clear c22
     by_cases c23 : (ji21) ≤ x3_2
     rotate_left
     ·rw [if_neg c23] at H
      exact absurd H (by simp)
     rw [if_pos c23] at H
     have c23b0:=eq_true c23
     have c23b1 : decide ((ji21) ≤ x3_2) = true:=decide_eq_true c23
     clear c23
     have c24b0:=eq_true (of_decide_eq_true (by first|(with_reducible assumption)|assumption) : x3_2 ≤ 5)
     by_cases c25 : ((⟨#[75,77,71,84,80]⟩ : ByteArray).extract ((ji21) : Int).toNat (x3_2 : Int).toNat).size + 1 ≤ 9223372036854775807
     rotate_left
     ·rw [if_neg c25] at H
      exact absurd H (by simp)
     rw [if_pos c25] at H
     have c25b0:=eq_true c25
     have c25b1 : decide (((⟨#[75,77,71,84,80]⟩ : ByteArray).extract ((ji21) : Int).toNat (x3_2 : Int).toNat).size + 1 ≤ 9223372036854775807) = true:=decide_eq_true c25
     try have c25b4 : (9223372036854775807 < x3_2.toNat - ji21.toNat + 1) = False:=eq_false (by have h_ : x3_2 ≤ 5:=of_decide_eq_true (by assumption);omega)
     try have c25b2 : (9223372036854775807 < ((⟨#[75,77,71,84,80]⟩ : ByteArray).extract ((ji21) : Int).toNat (x3_2 : Int).toNat).size + 1) = False:=eq_false (Nat.not_lt.2 c25)
     replace H:=Option.bind_eq_some_iff.mp H
     obtain ⟨t181,A260,H⟩:=H
     replace H : ((bursarref03_long.f k2 1000).bind fun t184 => ((bursarref03_Long_times.f k2 t181 t184).bind fun t187 => (if x1_2.length < 3518437208883 then (bursarref03_suffixes.l1 k2 (x1_2 ++ [(⟨((⟨#[75,77,71,84,80]⟩ : ByteArray).extract ((ji21) : Int).toNat (x3_2 : Int).toNat) ++ (⟨#[105]⟩ : ByteArray),(⟨t187⟩ : S85)⟩ : S87)]) (wrap64 (x3_2 + 1))) else (none)))) = some r:=H
     have A26:=Aside0.mk A260
     clear A260
     replace H:=Option.bind_eq_some_iff.mp H
     obtain ⟨t184,A270,H⟩:=H
     replace H : ((bursarref03_Long_times.f k2 t181 t184).bind fun t187 => (if x1_2.length < 3518437208883 then (bursarref03_suffixes.l1 k2 (x1_2 ++ [(⟨((⟨#[75,77,71,84,80]⟩ : ByteArray).extract ((ji21) : Int).toNat (x3_2 : Int).toNat) ++ (⟨#[105]⟩ : ByteArray),(⟨t187⟩ : S85)⟩ : S87)]) (wrap64 (x3_2 + 1))) else (none))) = some r:=H
     have A27:=Aside0.mk A270
     clear A270
     replace H:=Option.bind_eq_some_iff.mp H
     obtain ⟨t187,A280,H⟩:=H
     replace H : (if x1_2.length < 3518437208883 then (bursarref03_suffixes.l1 k2 (x1_2 ++ [(⟨((⟨#[75,77,71,84,80]⟩ : ByteArray).extract ((ji21) : Int).toNat (x3_2 : Int).toNat) ++ (⟨#[105]⟩ : ByteArray),(⟨t187⟩ : S85)⟩ : S87)]) (wrap64 (x3_2 + 1))) else (none)) = some r:=H
     have A28:=Aside0.mk A280
     clear A280
     by_cases c29 : x1_2.length < 3518437208883
     rotate_left
     ·rw [if_neg c29] at H
      exact absurd H (by simp)
     rw [if_pos c29] at H
     have LMc29:=Aside0.mk c29
     clear c29
     obtain ⟨y190,hy190⟩ : ∃ y_ : List (S87),y_ = (x1_2 ++ [(⟨((⟨#[75,77,71,84,80]⟩ : ByteArray).extract ((ji21) : Int).toNat (x3_2 : Int).toNat) ++ (⟨#[105]⟩ : ByteArray),(⟨t187⟩ : S85)⟩ : S87)]):=⟨_,rfl⟩
     replace H : (bursarref03_suffixes.l1 k2 y190 (wrap64 (x3_2 + 1))) = some r:=by first|(rw [hy190];with_reducible exact H)|(have H2_:=(Option.bind_some _ _).symm.trans H;rw [hy190];with_reducible exact H2_)|(have H2_:=(Option.bind_some _ _).symm.trans H;with_reducible exact H2_)|with_reducible exact H|(rw [hy190];exact H)|exact H
     have Ny190:=Aside0.mk hy190
     clear hy190
     have H':=Aside0.mk H
     clear H
     try go_wp2
     have n0_:=Aside0.mk (Kd.N_drew HO_1.out)
     have n1_:=Aside0.mk (below_drew1 HB.out)
     clear HO_1;clear HB;have HO_1:=n0_;have HB:=n1_;clear n0_ n1_
     refine start_ (n:=14) (S:=fun w' => True) (ds:=[]) #[false,false,false,false,false,false,false,false,false,false,false,false,false,false] (by kernel_rfl) rfl rfl trivial (fun hHeld => ?_);refine with_tabW bursarref03_suffixes.tab9 bursarref03_suffixes.bits9 (fun HT_ HW_ => ?_)
     generalize wr.drew = w30 at HO_1 HB hHeld ⊢
     refine pure_ (i:=0) (N:=some 28) (v:=?_) (a':=?_) #[true,false,false,false,false,false,false,false,false,false,false,false,false,false] rfl rfl (any_of HT_.out (by kernel_rfl)) (fun _ _ _ h => h) (Or.inl ⟨by rfl,?_⟩) ?_ ?_
     rotate_left;·intro w';go_simp;with_reducible rfl
     rotate_left;·simp only [pu_];rfl
     refine pure_ (i:=1) (N:=some 29) (v:=?_) (a':=?_) #[true,true,false,false,false,false,false,false,false,false,false,false,false,false] rfl rfl (any_of HT_.out (by kernel_rfl)) (fun _ _ _ h => h) (Or.inl ⟨by rfl,?_⟩) ?_ ?_
     rotate_left;·intro w';go_simp;with_reducible rfl
     rotate_left;·simp only [pu_];rfl
     refine pure_ (i:=2) (N:=some 30) (v:=?_) (a':=?_) #[true,true,true,false,false,false,false,false,false,false,false,false,false,false] rfl rfl (any_of HT_.out (by kernel_rfl)) (fun _ _ _ h => h) (Or.inl ⟨by rfl,?_⟩) ?_ ?_
     rotate_left;·intro w';go_simp;with_reducible rfl
     rotate_left;·simp only [pu_];rfl
     refine pure_ (i:=3) (N:=some 31) (v:=?_) (a':=?_) #[true,true,true,true,false,false,false,false,false,false,false,false,false,false] rfl rfl (any_of HT_.out (by kernel_rfl)) (fun _ _ _ h => h) (Or.inl ⟨by rfl,?_⟩) ?_ ?_
     rotate_left;·intro w';go_simp;with_reducible rfl
     rotate_left;·simp only [pu_];rfl
     refine pure_ (i:=4) (N:=some 32) (v:=?_) (a':=?_) #[true,true,true,true,true,false,false,false,false,false,false,false,false,false] rfl rfl (any_of HT_.out (by kernel_rfl)) (fun _ _ _ h => h) (Or.inl ⟨by rfl,?_⟩) ?_ ?_
     rotate_left;·intro w';go_simp;with_reducible rfl
     rotate_left;·simp only [pu_];rfl
     refine pure_ (i:=5) (N:=some 33) (v:=?_) (a':=?_) #[true,true,true,true,true,true,false,false,false,false,false,false,false,false] rfl rfl (any_of HT_.out (by kernel_rfl)) (fun _ _ _ h => h) (Or.inl ⟨by rfl,?_⟩) ?_ ?_
     rotate_left;·intro w';go_simp;with_reducible rfl
     rotate_left;·simp only [pu_];rfl
     refine pure_ (i:=6) (N:=some 34) (v:=?_) (a':=?_) #[true,true,true,true,true,true,true,false,false,false,false,false,false,false] rfl rfl (any_of HT_.out (by kernel_rfl)) (fun _ _ _ h => h) (Or.inl ⟨by rfl,?_⟩) ?_ ?_
     rotate_left;·intro w';go_simp;with_reducible rfl
     rotate_left;·simp only [pu_];rfl
     refine one_ (i:=7) (N:=some 35) #[true,true,true,true,true,true,true,true,false,false,false,false,false,false] rfl rfl (one_of HT_.out (by kernel_rfl)) (by decide) (fun K hK => ?_)
     refine goes_ Tryz.func83 (by kernel_rfl) rfl #[.int .i64 1024,.int .i64 x3_2] (by rfl) rfl rfl (by (try simp only [List.map_toArray,List.map_cons,List.map_nil]);first|done|rfl|(simp only [List.length_drop,List.length_take];rfl)) ?_
     with_reducible refine (bursarref03_power.calls k2 1024 x3_2 t181 _ A26.out).mono ?_
     rintro e w31 ⟨v182,rfl,ho0,hb⟩
     refine ⟨_,rfl,?_⟩
     have n0_:=Aside0.mk (Kd.N_below (by (with_reducible repeat (first|apply Kd.N_alloc|apply Kd.N_drewN|apply Kd.N_drew));exact HO_1.out) hb)
     have n1_:=Aside0.mk (Kd.V_lower (Kd.V_mono (ok':=fun k_ => (w.heap.size ≤ k_) ∧ some k_ ≠ (u1 : Value).ownBlock) ho0 (fun k_ hk_ => ⟨(Nat.le_trans (below_size (by repeat (first|(with_reducible first|exact HB.out|apply below_alloc|apply pw_below_drewN|apply below_drew1)|exact HB.out))) hk_),(Kd.fresh' (Kd.N_lt (by (with_reducible repeat (first|apply Kd.N_alloc|apply Kd.N_drewN|apply Kd.N_drew));exact HO_1.out)) k_ hk_)⟩)) (below_size (by repeat (first|(with_reducible first|exact HB.out|apply below_alloc|apply pw_below_drewN|apply below_drew1)|exact HB.out))))
     have n2_:=Aside0.mk (below_step (by repeat (first|(with_reducible first|exact HB.out|apply below_alloc|apply pw_below_drewN|apply below_drew1)|exact HB.out)) hb)
     clear HO_1;clear HB;have HO_1:=n0_;have HO183:=n1_;have HB:=n2_;clear n0_ n1_ n2_;(try clear hb);(try clear hb2);(try clear hk);(try clear hi);(try clear ho0)
     refine hK.out _ _ trivial (fun hHeld => ?_)
     clear hK K
     refine norm_ (a':=?_) ?_ ?_
     rotate_left
     ·show Act.put _ (some 35) _ = _
      simp only [pu_]
      rfl
     refine one_ (i:=8) (N:=some 36) #[true,true,true,true,true,true,true,true,true,false,false,false,false,false] rfl rfl (one_of HT_.out (by kernel_rfl)) (by decide) (fun K hK => ?_)
     refine goes_ Tryz.func62 (by kernel_rfl) rfl #[.int .i64 1000] (by rfl) rfl rfl (by (try simp only [List.map_toArray,List.map_cons,List.map_nil]);first|done|rfl|(simp only [List.length_drop,List.length_take];rfl)) ?_
     with_reducible refine (bursarref03_long.calls k2 1000 t184 _ A27.out).mono ?_
     rintro e w32 ⟨v185,rfl,ho0,hb⟩
     refine ⟨_,rfl,?_⟩
     have n0_:=Aside0.mk (Kd.N_elder' (by (with_reducible repeat (first|apply Kd.N_alloc|apply Kd.N_drewN|apply Kd.N_drew));exact HO_1.out) (Kd.R_base ho0) hb)
     have n1_:=Aside0.mk (Kd.V_elder' (by (with_reducible repeat (first|apply Kd.V_alloc|apply Kd.V_drewN|apply Kd.V_drew));exact HO183.out) (Kd.R_base ho0) hb)
     have n2_:=Aside0.mk (Kd.R_lower (Kd.R_newM (M:=fun k_ => (w.heap.size ≤ k_)) ho0 (below_size (by repeat (first|(with_reducible first|exact HB.out|apply below_alloc|apply pw_below_drewN|apply below_drew1)|exact HB.out))) (fun k_ h_ => h_)) (below_size (by repeat (first|(with_reducible first|exact HB.out|apply below_alloc|apply pw_below_drewN|apply below_drew1)|exact HB.out))))
     have n3_:=Aside0.mk (below_step (by repeat (first|(with_reducible first|exact HB.out|apply below_alloc|apply pw_below_drewN|apply below_drew1)|exact HB.out)) hb)
     clear HO_1;clear HO183;clear HB;have HO_1:=n0_;have HO183:=n1_;have HO186:=n2_;have HB:=n3_;clear n0_ n1_ n2_ n3_;(try clear hb);(try clear hb2);(try clear hk);(try clear hi);(try clear ho0)
     obtain ⟨Ao33,co33,eo33⟩:=Kd.V_slice HO183.out
     (first|subst eo33|(injection eo33 with f1_ f2_ f3_;have f4_:=f1_.symm;have f5_:=f3_.symm;clear f1_ f2_ f3_;subst f4_;subst f5_))
     obtain ⟨Ao34,co34,eo34⟩:=Kd.R_slice HO186.out
     (first|subst eo34|(injection eo34 with f1_ f2_ f3_;have f4_:=f1_.symm;have f5_:=f3_.symm;clear f1_ f2_ f3_;subst f4_;subst f5_))
     refine hK.out _ _ trivial (fun hHeld => ?_)
     clear hK K
     refine norm_ (a':=?_) ?_ ?_
     rotate_left
     ·show Act.put _ (some 36) _ = _
      simp only [pu_]
      rfl
     refine one_ (i:=9) (N:=some 37) #[true,true,true,true,true,true,true,true,true,true,false,false,false,false] rfl rfl (one_of HT_.out (by kernel_rfl)) (by decide) (fun K hK => ?_)
     refine goes_ Tryz.func70 (by kernel_rfl) rfl #[.agg #[.slice Ao33 t181.length co33],.agg #[.slice Ao34 t184.length co34]] (by rfl) rfl rfl (by (try simp only [List.map_toArray,List.map_cons,List.map_nil]);first|done|rfl|(simp only [List.length_drop,List.length_take];rfl)) ?_
     with_reducible refine (bursarref03_Long_times.calls k2 _ _ t181 _ _ t184 t187 _ ?side1 ?side2 ?side3 ?side4 A28.out).mono ?_
     (case side1 => repeat (first|exact (Kd.V_reads' HO183.out).2.2|(with_reducible refine Kd.C_alloc ?_ _)|(with_reducible refine Kd.C_drewN ?_ _)|(with_reducible refine Kd.C_drew ?_)))
     (case side2 => exact (Kd.V_reads' HO183.out).2.1)
     (case side3 => repeat (first|exact (Kd.R_reads' HO186.out).2.2|(with_reducible refine Kd.C_alloc ?_ _)|(with_reducible refine Kd.C_drewN ?_ _)|(with_reducible refine Kd.C_drew ?_)))
     (case side4 => exact (Kd.R_reads' HO186.out).2.1)
     rintro e w35 ⟨v188,rfl,ho0,hb⟩
     refine ⟨_,rfl,?_⟩
     have n0_:=Aside0.mk (Kd.N_below (by (with_reducible repeat (first|apply Kd.N_alloc|apply Kd.N_drewN|apply Kd.N_drew));exact HO_1.out) hb)
     have n1_:=Aside0.mk (Kd.V_below (by (with_reducible repeat (first|apply Kd.V_alloc|apply Kd.V_drewN|apply Kd.V_drew));exact HO183.out) hb)
     have n2_:=Aside0.mk (Kd.R_below (by (with_reducible repeat (first|apply Kd.R_alloc|apply Kd.R_drewN|apply Kd.R_drew));exact HO186.out) hb)
     have n3_:=Aside0.mk (Kd.V_lower (Kd.V_mono (ok':=fun k_ => (w.heap.size ≤ k_) ∧ some k_ ≠ (u1 : Value).ownBlock ∧ some k_ ≠ (.slice Ao34 t184.length co34 : Value).ownBlock) ho0 (fun k_ hk_ => ⟨(Nat.le_trans (below_size (by repeat (first|(with_reducible first|exact HB.out|apply below_alloc|apply pw_below_drewN|apply below_drew1)|exact HB.out))) hk_),(Kd.fresh' (Kd.N_lt (by (with_reducible repeat (first|apply Kd.N_alloc|apply Kd.N_drewN|apply Kd.N_drew));exact HO_1.out)) k_ hk_),(Kd.fresh' (Kd.R_lt (by (with_reducible repeat (first|apply Kd.R_alloc|apply Kd.R_drewN|apply Kd.R_drew));exact HO186.out)) k_ hk_)⟩)) (below_size (by repeat (first|(with_reducible first|exact HB.out|apply below_alloc|apply pw_below_drewN|apply below_drew1)|exact HB.out))))
     have n4_:=Aside0.mk (below_step (by repeat (first|(with_reducible first|exact HB.out|apply below_alloc|apply pw_below_drewN|apply below_drew1)|exact HB.out)) hb)
     clear HO_1;clear HO183;clear HO186;clear HB;have HO_1:=n0_;have HO183:=n1_;have HO186:=n2_;have HO189:=n3_;have HB:=n4_;clear n0_ n1_ n2_ n3_ n4_;(try clear hb);(try clear hb2);(try clear hk);(try clear hi);(try clear ho0)
     obtain ⟨Ao36,co36,eo36⟩:=Kd.V_slice HO189.out
     (first|subst eo36|(injection eo36 with f1_ f2_ f3_;have f4_:=f1_.symm;have f5_:=f3_.symm;clear f1_ f2_ f3_;subst f4_;subst f5_))
     refine hK.out _ _ trivial (fun hHeld => ?_)
     clear hK K
     refine norm_ (a':=?_) ?_ ?_
     rotate_left
     ·show Act.put _ (some 37) _ = _
      simp only [pu_]
      rfl
     refine pure_ (i:=10) (N:=some 38) (v:=?_) (a':=?_) #[true,true,true,true,true,true,true,true,true,true,true,false,false,false] rfl rfl (any_of HT_.out (by kernel_rfl)) (fun _ _ _ h => h) (Or.inl ⟨by rfl,?_⟩) ?_ ?_
     rotate_left;·intro w';go_simp;with_reducible rfl
     rotate_left;·simp only [pu_];rfl
     refine one_ (i:=11) (N:=some 39) #[true,true,true,true,true,true,true,true,true,true,true,true,false,false] rfl rfl (one_of HT_.out (by kernel_rfl)) (by decide) (fun K hK => ?_)
     refine value_ (w1:=?_) (v:=?_) (by rfl) rfl ?_ ?_
     rotate_left 2
     ·go_simp
      constructor
      ·rfl
      ·rfl
     refine hK.out _ _ trivial (fun hHeld => ?_)
     clear hK K
     refine norm_ (a':=?_) ?_ ?_
     rotate_left
     ·show Act.put _ (some 39) _ = _
      simp only [pu_]
      rfl
     refine one_ (i:=12) (N:=some 40) #[true,true,true,true,true,true,true,true,true,true,true,true,true,false] rfl rfl (one_of HT_.out (by kernel_rfl)) (by decide) (fun K hK => ?_)
     refine Kd.N_append_step k87 (w0:=w) w.heap.size (by rfl) (.tmp 28) (.tmp 39) 82 87 (.agg #[(.string ⟨#[]⟩),(.slice none 0 0)]) 40 rfl Tryz.underlying82 info87 rfl (by decide) (by omega) u1 x1_2 (⟨((⟨#[75,77,71,84,80]⟩ : ByteArray).extract ((ji21) : Int).toNat (x3_2 : Int).toNat) ++ (⟨#[105]⟩ : ByteArray),(⟨t187⟩ : S85)⟩ : S87) [.string (((⟨#[75,77,71,84,80]⟩ : ByteArray).extract ((ji21) : Int).toNat (x3_2 : Int).toNat) ++ (⟨#[105]⟩ : ByteArray)),.slice Ao36 t187.length co36] (fun k_ => (w.heap.size ≤ k_) ∧ some k_ ≠ (.slice Ao34 t184.length co34 : Value).ownBlock) (fun k_ => ((fun k_ => (w.heap.size ≤ k_) ∧ some k_ ≠ (.slice Ao34 t184.length co34 : Value).ownBlock)) k_ ∧ some k_ ≠ (u1 : Value).ownBlock) rfl rfl ?aP (fun _ hk => hk) ?aF ?aO ?aB ?aS ?aL ?_
     (case aP => exact (k87_mkF _ _ (⟨((⟨#[75,77,71,84,80]⟩ : ByteArray).extract ((ji21) : Int).toNat (x3_2 : Int).toNat) ++ (⟨#[105]⟩ : ByteArray),(⟨t187⟩ : S85)⟩ : S87) (Kd.V_reads' (Kd.V_mono (ok':=(fun k_ => ((fun k_ => (w.heap.size ≤ k_) ∧ some k_ ≠ (.slice Ao34 t184.length co34 : Value).ownBlock)) k_ ∧ some k_ ≠ (u1 : Value).ownBlock)) (HO189.out) (fun k_ hk => ⟨⟨hk.1,hk.2.2⟩,hk.2.1⟩))).2.1 (Kd.V_F (Kd.V_mono (ok':=(fun k_ => ((fun k_ => (w.heap.size ≤ k_) ∧ some k_ ≠ (.slice Ao34 t184.length co34 : Value).ownBlock)) k_ ∧ some k_ ≠ (u1 : Value).ownBlock)) (HO189.out) (fun k_ hk => ⟨⟨hk.1,hk.2.2⟩,hk.2.1⟩)))))
     (case aB => exact (by repeat (first|(with_reducible first|exact HB.out|apply below_alloc|apply pw_below_drewN|apply below_drew1)|exact HB.out)))
     (case aF => exact (fun k_ hk => ⟨(Nat.le_trans (below_size (by repeat (first|(with_reducible first|exact HB.out|apply below_alloc|apply pw_below_drewN|apply below_drew1)|exact HB.out))) hk),Kd.fresh' (Kd.R_lt (by (with_reducible repeat (first|apply Kd.R_alloc|apply Kd.R_drewN|apply Kd.R_drew));exact HO186.out)) k_ hk⟩))
     (case aO => exact (by (with_reducible repeat (first|apply Kd.N_alloc|apply Kd.N_drewN|apply Kd.N_drew));exact HO_1.out))
     (case aS => exact (below_size (by repeat (first|(with_reducible first|exact HB.out|apply below_alloc|apply pw_below_drewN|apply below_drew1)|exact HB.out))))
     (case aL => have:=LMc29.out;omega)
     intro v191 w37 ho hb hg hat
     rw [← Ny190.out] at ho
     have n0_:=Aside0.mk (Kd.V_afterv (ok:=(fun k_ => (w.heap.size ≤ k_) ∧ some k_ ≠ (.slice Ao34 t184.length co34 : Value).ownBlock)) (by (with_reducible repeat (first|apply Kd.V_alloc|apply Kd.V_drewN|apply Kd.V_drew));exact Kd.V_mono HO183.out (fun _ hk => ⟨⟨hk.1.1,hk.2⟩,hk.1.2⟩)) hg hat)
     have n1_:=Aside0.mk (Kd.R_over' (by (with_reducible repeat (first|apply Kd.R_alloc|apply Kd.R_drewN|apply Kd.R_drew));exact HO186.out) (Kd.N_typed (by (with_reducible repeat (first|apply Kd.N_alloc|apply Kd.N_drewN|apply Kd.N_drew));exact HO_1.out)) (by decide) hg)
     have n2_:=Aside0.mk (Kd.V_afterv (ok:=(fun k_ => (w.heap.size ≤ k_) ∧ some k_ ≠ (.slice Ao34 t184.length co34 : Value).ownBlock)) (by (with_reducible repeat (first|apply Kd.V_alloc|apply Kd.V_drewN|apply Kd.V_drew));exact Kd.V_mono HO189.out (fun _ hk => ⟨⟨hk.1,hk.2.2⟩,hk.2.1⟩)) hg hat)
     have n3_:=Aside0.mk (hb)
     have n4_:=Aside0.mk (ho)
     clear HO183;clear HO186;clear HO189;clear HB;clear HO_1;have HO183:=n0_;have HO186:=n1_;have HO189:=n2_;have HB:=n3_;have HO192:=n4_;clear n0_ n1_ n2_ n3_ n4_;clear ho hb hg hat
     refine hK.out _ _ trivial (fun hHeld => ?_)
     clear hK K
     refine norm_ (a':=?_) ?_ ?_
     rotate_left
     ·show Act.put _ (some 40) _ = _
      simp only [pu_]
      rfl
     refine pure_ (i:=13) (N:=some 1) (v:=?_) (a':=?_) #[true,true,true,true,true,true,true,true,true,true,true,true,true,true] rfl rfl (any_of HT_.out (by kernel_rfl)) (fun _ _ _ h => h) (Or.inl ⟨by rfl,?_⟩) ?_ ?_
     rotate_left;·intro w';go_simp;with_reducible rfl
     rotate_left;·simp only [pu_];rfl
     refine done_ (done_of HT_.out (by kernel_rfl)) ?_
     try go_wp2
     go_roundg k2
     case measure => have:=HK1.out;have:=HK2.out;omega
     case rel => exact ⟨(y190),(wrap64 (x3_2 + 1)),(by first|rfl|(simp;done)|(simp [*];done)|(simp;rw [Bool.eq_iff_iff];simp;done)|(rw [Bool.eq_iff_iff];simp;done)),H',⟨by have:=HK1.out;have:=HK2.out;omega⟩,⟨by (with_reducible repeat (first|apply Kd.N_alloc|apply Kd.N_drewN|apply Kd.N_drew));exact Kd.N_mono HO192.out (fun _ hk => hk.1)⟩,⟨by repeat (first|(with_reducible first|exact HB.out|apply below_alloc|apply pw_below_drewN|apply below_drew1)|exact HB.out)⟩⟩
end Go.Proofs.YtejgbdclhlolkaaGreatDoor.Q
namespace Go.Proofs.YtejgbdclhlolkaaGreatDoor.Q
open Go.RowKit Go.Proofs.YtejgbdclhlolkaaGreatDoorW.PrintWords Go.Proofs.YtejgbdclhlolkaaGreatDoorW.PrintLast Go.Proofs.YtejgbdclhlolkaaGreatDoorW.PrintMore
attribute [local go_sem] max2_int min2_int max_two min_two max_three min_three max_four min_four   -- for this text's walks alone
set_option linter.unusedVariables false
set_option linter.unusedSimpArgs false
def bursarref03_Long_less.l0 : Nat → Int → List Int → List Int → Option (Bool)
|0,_,_,_ => none
|k + 1,x5,x194000,x195000 => if x5 ≥ 0 then (if 0 ≤ x5 then (if x5 < (x194000.length : Int) then (if x5 < (x195000.length : Int) then (if (rd x194000 x5) = (rd x195000 x5) then (bursarref03_Long_less.l0 k (wrap64 (x5 - 1)) x194000 x195000) else (some (decide ((rd x194000 x5) < (rd x195000 x5))))) else (none)) else (none)) else (none)) else (some false)
def bursarref03_Long_less.f (k : Nat) (l0_0 : List Int) (l1_0 : List Int) : Option (Bool) := if (l0_0.length : Int) = (l1_0.length : Int) then (bursarref03_Long_less.l0 k (wrap64 ((l0_0.length : Int) - 1)) l0_0 l1_0) else (some (decide ((l0_0.length : Int) < (l1_0.length : Int))))
theorem bursarref03_Long_less.mono_l : ∀ k, (∀ y0 y1 y2, LeO (bursarref03_Long_less.l0 k y0 y1 y2) (bursarref03_Long_less.l0 (k + 1) y0 y1 y2))
|0 => fun _ _ _ r h => by simp [bursarref03_Long_less.l0] at h
|k + 1 => by
  have ih0:=bursarref03_Long_less.mono_l k
  ·intro y0 y1 y2
   unfold bursarref03_Long_less.l0
   repeat' first
  |(with_reducible exact ih0 _ _ _)
  |(with_reducible exact LeO.refl _)
  |(with_reducible exact LeO.none _)
  |(with_reducible refine LeO.ite ?_ ?_)
  |(with_reducible refine LeO.bind ?_ (fun _ => ?_))
  |exact ih0 _ _ _
  |exact LeO.none _
  |refine LeO.ite ?_ ?_
  |refine LeO.bind ?_ (fun _ => ?_)
theorem bursarref03_Long_less.mono : ∀ a0 a1 k, LeO (bursarref03_Long_less.f k a0 a1) (bursarref03_Long_less.f (k + 1) a0 a1) := by
 intro a0 a1 k
 have ih0:=bursarref03_Long_less.mono_l k
 unfold bursarref03_Long_less.f
 repeat' first
  |(with_reducible exact ih0 _ _ _)
  |(with_reducible exact LeO.refl _)
  |(with_reducible exact LeO.none _)
  |(with_reducible refine LeO.ite ?_ ?_)
  |(with_reducible refine LeO.bind ?_ (fun _ => ?_))
  |exact ih0 _ _ _
  |exact LeO.none _
  |refine LeO.ite ?_ ?_
  |refine LeO.bind ?_ (fun _ => ?_)
set_option maxHeartbeats 8000000 in
set_option maxRecDepth 100000 in
theorem bursarref03_Long_less.calls (k : Nat) (A0_0 : Option Addr) (c0_0 : Nat) (l0_0 : List Int) (A1_0 : Option Addr) (c1_0 : Nat) (l1_0 : List Int) (r : Bool) (w : World) (hr0_0 : Kd.C (Kd.int .i64) w A0_0 l0_0.length l0_0) (hc0_0 : l0_0.length ≤ c0_0) (hr1_0 : Kd.C (Kd.int .i64) w A1_0 l1_0.length l1_0) (hc1_0 : l1_0.length ≤ c1_0) (h : bursarref03_Long_less.f k l0_0 l1_0 = some r) :
  Calls Tryz.prog 85 #[.agg #[.slice A0_0 l0_0.length c0_0],.agg #[.slice A1_0 l1_0.length c1_0]] w fun e w' => e = .returned (.bool r) ∧ Below w.heap.size w w':=by
 have hu85:=Tryz.underlying85
 have HR0_0:=Aside0.mk hr0_0
 have HC0_0:=Aside0.mk hc0_0
 clear hr0_0 hc0_0
 have HR1_0:=Aside0.mk hr1_0
 have HC1_0:=Aside0.mk hc1_0
 clear hr1_0 hc1_0
 have HB:=Aside0.mk (Below.refl w.heap.size w)
 have H : (if (l0_0.length : Int) = (l1_0.length : Int) then (bursarref03_Long_less.l0 k (wrap64 ((l0_0.length : Int) - 1)) l0_0 l1_0) else (some (decide ((l0_0.length : Int) < (l1_0.length : Int))))) = some r:=h
 clear h
 by_cases c3 : (l0_0.length : Int) = (l1_0.length : Int)
 rotate_left
 ·rw [if_neg c3] at H
  have c3b0 : ((l0_0.length : Int) == (l1_0.length : Int)) = false:=beq_eq_false_iff_ne.mpr c3
  have c3b1 : ((l0_0.length : Int) != (l1_0.length : Int)) = true:=bne_iff_ne.mpr c3
  have c3b2 : (l0_0.length == l1_0.length) = false:=by first|simpa using c3|(simp at c3 ⊢;omega)
  obtain rfl:=Option.some.inj H
  go_enter Tryz.func85,Tryz.ntmps85
  go_wp2_with (first|((with_reducible refine gate_dst (N:=2) rfl ?_);refine box_event ?hg (N:=2) ?hd (cs:=#[.slice A0_0 l0_0.length c0_0]) (t:=85) ?hr ?_;(case hd => rfl);(case hg => rfl);(case hr => first|(go_simp;done)|(go_simp;rfl));intro gb193 hg w20 hbox hb;have n0_:=Aside0.mk (below_step (by repeat (first|(with_reducible first|exact HB.out|apply below_alloc|apply pw_below_drewN|apply below_drew1)|exact HB.out)) hb);have n1_:=Aside0.mk (hbox);have n2_:=Aside0.mk ((by rw [hg];exact (below_size (by repeat (first|(with_reducible first|exact HB.out|apply below_alloc|apply pw_below_drewN|apply below_drew1)|exact HB.out))) : w.heap.size ≤ gb193));have n3_:=Aside0.mk ((by rw [hg];exact (below_size (by repeat (first|(with_reducible first|exact HB.out|apply below_alloc|apply pw_below_drewN|apply below_drew1)|exact HB.out))) : w.heap.size ≤ gb193));clear HB;have HB:=n0_;have BK193:=n1_;have GW193:=n2_;have GE193:=n3_;clear n0_ n1_ n2_ n3_;clear hb hbox hg)|((with_reducible refine gate_dst (N:=3) rfl ?_);refine box_event ?hg (N:=3) ?hd (cs:=#[.slice A1_0 l1_0.length c1_0]) (t:=85) ?hr ?_;(case hd => rfl);(case hg => rfl);(case hr => first|(go_simp;done)|(go_simp;rfl));intro gb194 hg w21 hbox hb;have n0_:=Aside0.mk (blk_below (g:=gb193) (o:=.cells #[.slice A0_0 l0_0.length c0_0] 85 (0,0)) (by (with_reducible repeat (first|refine blk_drewN ?_ _|refine blk_drew ?_|refine blk_alloc ?_ _));exact BK193.out) hb);have n1_:=Aside0.mk (below_step (by repeat (first|(with_reducible first|exact HB.out|apply below_alloc|apply pw_below_drewN|apply below_drew1|refine below_set ?_ GE193.out)|exact HB.out)) hb);have n2_:=Aside0.mk (hbox);have n3_:=Aside0.mk ((by rw [hg];exact (below_size (by repeat (first|(with_reducible first|exact HB.out|apply below_alloc|apply pw_below_drewN|apply below_drew1|refine below_set ?_ GE193.out)|exact HB.out))) : w.heap.size ≤ gb194));have n4_:=Aside0.mk ((by rw [hg];exact (below_size (by repeat (first|(with_reducible first|exact HB.out|apply below_alloc|apply pw_below_drewN|apply below_drew1|refine below_set ?_ GE193.out)|exact HB.out))) : w.heap.size ≤ gb194));have n5_:=Aside0.mk ((by rw [hg];exact Nat.ne_of_lt (blk_lt (g:=gb193) (o:=.cells #[.slice A0_0 l0_0.length c0_0] 85 (0,0)) (by (with_reducible repeat (first|refine blk_drewN ?_ _|refine blk_drew ?_|refine blk_alloc ?_ _));exact BK193.out)) : gb193 ≠ gb194));have n6_:=Aside0.mk ((by rw [hg];exact Nat.ne_of_gt (blk_lt (g:=gb193) (o:=.cells #[.slice A0_0 l0_0.length c0_0] 85 (0,0)) (by (with_reducible repeat (first|refine blk_drewN ?_ _|refine blk_drew ?_|refine blk_alloc ?_ _));exact BK193.out)) : gb194 ≠ gb193));clear BK193;clear HB;have BK193:=n0_;have HB:=n1_;have BK194:=n2_;have GW194:=n3_;have GE194:=n4_;have NB193_194:=n5_;have NB194_193:=n6_;clear n0_ n1_ n2_ n3_ n4_ n5_ n6_;clear hb hbox hg;have hnb22:=NB193_194.out;have hnc22:=NB194_193.out;have hcz23_0 : w21.cell? ⟨gb193,0,none⟩ = some (.slice A0_0 l0_0.length c0_0):=(blk_cell BK193.out 0).trans rfl;have hfz23_0:=blk_frozen BK193.out 0;have hcz24_0 : w21.cell? ⟨gb194,0,none⟩ = some (.slice A1_0 l1_0.length c1_0):=(blk_cell BK194.out 0).trans rfl;have hfz24_0:=blk_frozen BK194.out 0))
  repeat (go_quiet (first|((with_reducible refine gate_dst (N:=2) rfl ?_);refine box_event ?hg (N:=2) ?hd (cs:=#[.slice A0_0 l0_0.length c0_0]) (t:=85) ?hr ?_;(case hd => rfl);(case hg => rfl);(case hr => first|(go_simp;done)|(go_simp;rfl));intro gb193 hg w20 hbox hb;have n0_:=Aside0.mk (below_step (by repeat (first|(with_reducible first|exact HB.out|apply below_alloc|apply pw_below_drewN|apply below_drew1)|exact HB.out)) hb);have n1_:=Aside0.mk (hbox);have n2_:=Aside0.mk ((by rw [hg];exact (below_size (by repeat (first|(with_reducible first|exact HB.out|apply below_alloc|apply pw_below_drewN|apply below_drew1)|exact HB.out))) : w.heap.size ≤ gb193));have n3_:=Aside0.mk ((by rw [hg];exact (below_size (by repeat (first|(with_reducible first|exact HB.out|apply below_alloc|apply pw_below_drewN|apply below_drew1)|exact HB.out))) : w.heap.size ≤ gb193));clear HB;have HB:=n0_;have BK193:=n1_;have GW193:=n2_;have GE193:=n3_;clear n0_ n1_ n2_ n3_;clear hb hbox hg)|((with_reducible refine gate_dst (N:=3) rfl ?_);refine box_event ?hg (N:=3) ?hd (cs:=#[.slice A1_0 l1_0.length c1_0]) (t:=85) ?hr ?_;(case hd => rfl);(case hg => rfl);(case hr => first|(go_simp;done)|(go_simp;rfl));intro gb194 hg w21 hbox hb;have n0_:=Aside0.mk (blk_below (g:=gb193) (o:=.cells #[.slice A0_0 l0_0.length c0_0] 85 (0,0)) (by (with_reducible repeat (first|refine blk_drewN ?_ _|refine blk_drew ?_|refine blk_alloc ?_ _));exact BK193.out) hb);have n1_:=Aside0.mk (below_step (by repeat (first|(with_reducible first|exact HB.out|apply below_alloc|apply pw_below_drewN|apply below_drew1|refine below_set ?_ GE193.out)|exact HB.out)) hb);have n2_:=Aside0.mk (hbox);have n3_:=Aside0.mk ((by rw [hg];exact (below_size (by repeat (first|(with_reducible first|exact HB.out|apply below_alloc|apply pw_below_drewN|apply below_drew1|refine below_set ?_ GE193.out)|exact HB.out))) : w.heap.size ≤ gb194));have n4_:=Aside0.mk ((by rw [hg];exact (below_size (by repeat (first|(with_reducible first|exact HB.out|apply below_alloc|apply pw_below_drewN|apply below_drew1|refine below_set ?_ GE193.out)|exact HB.out))) : w.heap.size ≤ gb194));have n5_:=Aside0.mk ((by rw [hg];exact Nat.ne_of_lt (blk_lt (g:=gb193) (o:=.cells #[.slice A0_0 l0_0.length c0_0] 85 (0,0)) (by (with_reducible repeat (first|refine blk_drewN ?_ _|refine blk_drew ?_|refine blk_alloc ?_ _));exact BK193.out)) : gb193 ≠ gb194));have n6_:=Aside0.mk ((by rw [hg];exact Nat.ne_of_gt (blk_lt (g:=gb193) (o:=.cells #[.slice A0_0 l0_0.length c0_0] 85 (0,0)) (by (with_reducible repeat (first|refine blk_drewN ?_ _|refine blk_drew ?_|refine blk_alloc ?_ _));exact BK193.out)) : gb194 ≠ gb193));clear BK193;clear HB;have BK193:=n0_;have HB:=n1_;have BK194:=n2_;have GW194:=n3_;have GE194:=n4_;have NB193_194:=n5_;have NB194_193:=n6_;clear n0_ n1_ n2_ n3_ n4_ n5_ n6_;clear hb hbox hg;have hnb22:=NB193_194.out;have hnc22:=NB194_193.out;have hcz23_0 : w21.cell? ⟨gb193,0,none⟩ = some (.slice A0_0 l0_0.length c0_0):=(blk_cell BK193.out 0).trans rfl;have hfz23_0:=blk_frozen BK193.out 0;have hcz24_0 : w21.cell? ⟨gb194,0,none⟩ = some (.slice A1_0 l1_0.length c1_0):=(blk_cell BK194.out 0).trans rfl;have hfz24_0:=blk_frozen BK194.out 0));try go_wp2_with (first|((with_reducible refine gate_dst (N:=2) rfl ?_);refine box_event ?hg (N:=2) ?hd (cs:=#[.slice A0_0 l0_0.length c0_0]) (t:=85) ?hr ?_;(case hd => rfl);(case hg => rfl);(case hr => first|(go_simp;done)|(go_simp;rfl));intro gb193 hg w20 hbox hb;have n0_:=Aside0.mk (below_step (by repeat (first|(with_reducible first|exact HB.out|apply below_alloc|apply pw_below_drewN|apply below_drew1)|exact HB.out)) hb);have n1_:=Aside0.mk (hbox);have n2_:=Aside0.mk ((by rw [hg];exact (below_size (by repeat (first|(with_reducible first|exact HB.out|apply below_alloc|apply pw_below_drewN|apply below_drew1)|exact HB.out))) : w.heap.size ≤ gb193));have n3_:=Aside0.mk ((by rw [hg];exact (below_size (by repeat (first|(with_reducible first|exact HB.out|apply below_alloc|apply pw_below_drewN|apply below_drew1)|exact HB.out))) : w.heap.size ≤ gb193));clear HB;have HB:=n0_;have BK193:=n1_;have GW193:=n2_;have GE193:=n3_;clear n0_ n1_ n2_ n3_;clear hb hbox hg)|((with_reducible refine gate_dst (N:=3) rfl ?_);refine box_event ?hg (N:=3) ?hd (cs:=#[.slice A1_0 l1_0.length c1_0]) (t:=85) ?hr ?_;(case hd => rfl);(case hg => rfl);(case hr => first|(go_simp;done)|(go_simp;rfl));intro gb194 hg w21 hbox hb;have n0_:=Aside0.mk (blk_below (g:=gb193) (o:=.cells #[.slice A0_0 l0_0.length c0_0] 85 (0,0)) (by (with_reducible repeat (first|refine blk_drewN ?_ _|refine blk_drew ?_|refine blk_alloc ?_ _));exact BK193.out) hb);have n1_:=Aside0.mk (below_step (by repeat (first|(with_reducible first|exact HB.out|apply below_alloc|apply pw_below_drewN|apply below_drew1|refine below_set ?_ GE193.out)|exact HB.out)) hb);have n2_:=Aside0.mk (hbox);have n3_:=Aside0.mk ((by rw [hg];exact (below_size (by repeat (first|(with_reducible first|exact HB.out|apply below_alloc|apply pw_below_drewN|apply below_drew1|refine below_set ?_ GE193.out)|exact HB.out))) : w.heap.size ≤ gb194));have n4_:=Aside0.mk ((by rw [hg];exact (below_size (by repeat (first|(with_reducible first|exact HB.out|apply below_alloc|apply pw_below_drewN|apply below_drew1|refine below_set ?_ GE193.out)|exact HB.out))) : w.heap.size ≤ gb194));have n5_:=Aside0.mk ((by rw [hg];exact Nat.ne_of_lt (blk_lt (g:=gb193) (o:=.cells #[.slice A0_0 l0_0.length c0_0] 85 (0,0)) (by (with_reducible repeat (first|refine blk_drewN ?_ _|refine blk_drew ?_|refine blk_alloc ?_ _));exact BK193.out)) : gb193 ≠ gb194));have n6_:=Aside0.mk ((by rw [hg];exact Nat.ne_of_gt (blk_lt (g:=gb193) (o:=.cells #[.slice A0_0 l0_0.length c0_0] 85 (0,0)) (by (with_reducible repeat (first|refine blk_drewN ?_ _|refine blk_drew ?_|refine blk_alloc ?_ _));exact BK193.out)) : gb194 ≠ gb193));clear BK193;clear HB;have BK193:=n0_;have HB:=n1_;have BK194:=n2_;have GW194:=n3_;have GE194:=n4_;have NB193_194:=n5_;have NB194_193:=n6_;clear n0_ n1_ n2_ n3_ n4_ n5_ n6_;clear hb hbox hg;have hnb22:=NB193_194.out;have hnc22:=NB194_193.out;have hcz23_0 : w21.cell? ⟨gb193,0,none⟩ = some (.slice A0_0 l0_0.length c0_0):=(blk_cell BK193.out 0).trans rfl;have hfz23_0:=blk_frozen BK193.out 0;have hcz24_0 : w21.cell? ⟨gb194,0,none⟩ = some (.slice A1_0 l1_0.length c1_0):=(blk_cell BK194.out 0).trans rfl;have hfz24_0:=blk_frozen BK194.out 0)))
  go_ret
  exact ⟨by first|rfl|(simp [errW_none,errW_some] <;> rfl)|(simp [*,errW_none,errW_some] <;> rfl),by repeat (first|(with_reducible first|exact HB.out|apply below_alloc|apply pw_below_drewN|apply below_drew1|refine below_set ?_ GE193.out|refine below_set ?_ GE194.out)|exact HB.out)⟩
 rw [if_pos c3] at H
 have c3b0 : ((l0_0.length : Int) == (l1_0.length : Int)) = true:=beq_iff_eq.mpr c3
 have c3b1 : ((l0_0.length : Int) != (l1_0.length : Int)) = false:=bne_eq_false_iff_eq.mpr c3
 have c3b2 : (l0_0.length == l1_0.length) = true:=by first|simpa using c3|(simp at c3 ⊢;omega)
 clear c3
 have H':=Aside0.mk H
 clear H
 go_enter Tryz.func85,Tryz.ntmps85
 go_wp2_with (first|((with_reducible refine gate_dst (N:=2) rfl ?_);refine box_event ?hg (N:=2) ?hd (cs:=#[.slice A0_0 l0_0.length c0_0]) (t:=85) ?hr ?_;(case hd => rfl);(case hg => rfl);(case hr => first|(go_simp;done)|(go_simp;rfl));intro gb193 hg w4 hbox hb;have n0_:=Aside0.mk (below_step (by repeat (first|(with_reducible first|exact HB.out|apply below_alloc|apply pw_below_drewN|apply below_drew1)|exact HB.out)) hb);have n1_:=Aside0.mk (hbox);have n2_:=Aside0.mk ((by rw [hg];exact (below_size (by repeat (first|(with_reducible first|exact HB.out|apply below_alloc|apply pw_below_drewN|apply below_drew1)|exact HB.out))) : w.heap.size ≤ gb193));have n3_:=Aside0.mk ((by rw [hg];exact (below_size (by repeat (first|(with_reducible first|exact HB.out|apply below_alloc|apply pw_below_drewN|apply below_drew1)|exact HB.out))) : w.heap.size ≤ gb193));clear HB;have HB:=n0_;have BK193:=n1_;have GW193:=n2_;have GE193:=n3_;clear n0_ n1_ n2_ n3_;clear hb hbox hg)|((with_reducible refine gate_dst (N:=3) rfl ?_);refine box_event ?hg (N:=3) ?hd (cs:=#[.slice A1_0 l1_0.length c1_0]) (t:=85) ?hr ?_;(case hd => rfl);(case hg => rfl);(case hr => first|(go_simp;done)|(go_simp;rfl));intro gb194 hg w5 hbox hb;have n0_:=Aside0.mk (blk_below (g:=gb193) (o:=.cells #[.slice A0_0 l0_0.length c0_0] 85 (0,0)) (by (with_reducible repeat (first|refine blk_drewN ?_ _|refine blk_drew ?_|refine blk_alloc ?_ _));exact BK193.out) hb);have n1_:=Aside0.mk (below_step (by repeat (first|(with_reducible first|exact HB.out|apply below_alloc|apply pw_below_drewN|apply below_drew1|refine below_set ?_ GE193.out)|exact HB.out)) hb);have n2_:=Aside0.mk (hbox);have n3_:=Aside0.mk ((by rw [hg];exact (below_size (by repeat (first|(with_reducible first|exact HB.out|apply below_alloc|apply pw_below_drewN|apply below_drew1|refine below_set ?_ GE193.out)|exact HB.out))) : w.heap.size ≤ gb194));have n4_:=Aside0.mk ((by rw [hg];exact (below_size (by repeat (first|(with_reducible first|exact HB.out|apply below_alloc|apply pw_below_drewN|apply below_drew1|refine below_set ?_ GE193.out)|exact HB.out))) : w.heap.size ≤ gb194));have n5_:=Aside0.mk ((by rw [hg];exact Nat.ne_of_lt (blk_lt (g:=gb193) (o:=.cells #[.slice A0_0 l0_0.length c0_0] 85 (0,0)) (by (with_reducible repeat (first|refine blk_drewN ?_ _|refine blk_drew ?_|refine blk_alloc ?_ _));exact BK193.out)) : gb193 ≠ gb194));have n6_:=Aside0.mk ((by rw [hg];exact Nat.ne_of_gt (blk_lt (g:=gb193) (o:=.cells #[.slice A0_0 l0_0.length c0_0] 85 (0,0)) (by (with_reducible repeat (first|refine blk_drewN ?_ _|refine blk_drew ?_|refine blk_alloc ?_ _));exact BK193.out)) : gb194 ≠ gb193));clear BK193;clear HB;have BK193:=n0_;have HB:=n1_;have BK194:=n2_;have GW194:=n3_;have GE194:=n4_;have NB193_194:=n5_;have NB194_193:=n6_;clear n0_ n1_ n2_ n3_ n4_ n5_ n6_;clear hb hbox hg;have hnb6:=NB193_194.out;have hnc6:=NB194_193.out;have hcz7_0 : w5.cell? ⟨gb193,0,none⟩ = some (.slice A0_0 l0_0.length c0_0):=(blk_cell BK193.out 0).trans rfl;have hfz7_0:=blk_frozen BK193.out 0;have hcz8_0 : w5.cell? ⟨gb194,0,none⟩ = some (.slice A1_0 l1_0.length c1_0):=(blk_cell BK194.out 0).trans rfl;have hfz8_0:=blk_frozen BK194.out 0))
 repeat (go_quiet (first|((with_reducible refine gate_dst (N:=2) rfl ?_);refine box_event ?hg (N:=2) ?hd (cs:=#[.slice A0_0 l0_0.length c0_0]) (t:=85) ?hr ?_;(case hd => rfl);(case hg => rfl);(case hr => first|(go_simp;done)|(go_simp;rfl));intro gb193 hg w4 hbox hb;have n0_:=Aside0.mk (below_step (by repeat (first|(with_reducible first|exact HB.out|apply below_alloc|apply pw_below_drewN|apply below_drew1)|exact HB.out)) hb);have n1_:=Aside0.mk (hbox);have n2_:=Aside0.mk ((by rw [hg];exact (below_size (by repeat (first|(with_reducible first|exact HB.out|apply below_alloc|apply pw_below_drewN|apply below_drew1)|exact HB.out))) : w.heap.size ≤ gb193));have n3_:=Aside0.mk ((by rw [hg];exact (below_size (by repeat (first|(with_reducible first|exact HB.out|apply below_alloc|apply pw_below_drewN|apply below_drew1)|exact HB.out))) : w.heap.size ≤ gb193));clear HB;have HB:=n0_;have BK193:=n1_;have GW193:=n2_;have GE193:=n3_;clear n0_ n1_ n2_ n3_;clear hb hbox hg)|((with_reducible refine gate_dst (N:=3) rfl ?_);refine box_event ?hg (N:=3) ?hd (cs:=#[.slice A1_0 l1_0.length c1_0]) (t:=85) ?hr ?_;(case hd => rfl);(case hg => rfl);(case hr => first|(go_simp;done)|(go_simp;rfl));intro gb194 hg w5 hbox hb;have n0_:=Aside0.mk (blk_below (g:=gb193) (o:=.cells #[.slice A0_0 l0_0.length c0_0] 85 (0,0)) (by (with_reducible repeat (first|refine blk_drewN ?_ _|refine blk_drew ?_|refine blk_alloc ?_ _));exact BK193.out) hb);have n1_:=Aside0.mk (below_step (by repeat (first|(with_reducible first|exact HB.out|apply below_alloc|apply pw_below_drewN|apply below_drew1|refine below_set ?_ GE193.out)|exact HB.out)) hb);have n2_:=Aside0.mk (hbox);have n3_:=Aside0.mk ((by rw [hg];exact (below_size (by repeat (first|(with_reducible first|exact HB.out|apply below_alloc|apply pw_below_drewN|apply below_drew1|refine below_set ?_ GE193.out)|exact HB.out))) : w.heap.size ≤ gb194));have n4_:=Aside0.mk ((by rw [hg];exact (below_size (by repeat (first|(with_reducible first|exact HB.out|apply below_alloc|apply pw_below_drewN|apply below_drew1|refine below_set ?_ GE193.out)|exact HB.out))) : w.heap.size ≤ gb194));have n5_:=Aside0.mk ((by rw [hg];exact Nat.ne_of_lt (blk_lt (g:=gb193) (o:=.cells #[.slice A0_0 l0_0.length c0_0] 85 (0,0)) (by (with_reducible repeat (first|refine blk_drewN ?_ _|refine blk_drew ?_|refine blk_alloc ?_ _));exact BK193.out)) : gb193 ≠ gb194));have n6_:=Aside0.mk ((by rw [hg];exact Nat.ne_of_gt (blk_lt (g:=gb193) (o:=.cells #[.slice A0_0 l0_0.length c0_0] 85 (0,0)) (by (with_reducible repeat (first|refine blk_drewN ?_ _|refine blk_drew ?_|refine blk_alloc ?_ _));exact BK193.out)) : gb194 ≠ gb193));clear BK193;clear HB;have BK193:=n0_;have HB:=n1_;have BK194:=n2_;have GW194:=n3_;have GE194:=n4_;have NB193_194:=n5_;have NB194_193:=n6_;clear n0_ n1_ n2_ n3_ n4_ n5_ n6_;clear hb hbox hg;have hnb6:=NB193_194.out;have hnc6:=NB194_193.out;have hcz7_0 : w5.cell? ⟨gb193,0,none⟩ = some (.slice A0_0 l0_0.length c0_0):=(blk_cell BK193.out 0).trans rfl;have hfz7_0:=blk_frozen BK193.out 0;have hcz8_0 : w5.cell? ⟨gb194,0,none⟩ = some (.slice A1_0 l1_0.length c1_0):=(blk_cell BK194.out 0).trans rfl;have hfz8_0:=blk_frozen BK194.out 0));try go_wp2_with (first|((with_reducible refine gate_dst (N:=2) rfl ?_);refine box_event ?hg (N:=2) ?hd (cs:=#[.slice A0_0 l0_0.length c0_0]) (t:=85) ?hr ?_;(case hd => rfl);(case hg => rfl);(case hr => first|(go_simp;done)|(go_simp;rfl));intro gb193 hg w4 hbox hb;have n0_:=Aside0.mk (below_step (by repeat (first|(with_reducible first|exact HB.out|apply below_alloc|apply pw_below_drewN|apply below_drew1)|exact HB.out)) hb);have n1_:=Aside0.mk (hbox);have n2_:=Aside0.mk ((by rw [hg];exact (below_size (by repeat (first|(with_reducible first|exact HB.out|apply below_alloc|apply pw_below_drewN|apply below_drew1)|exact HB.out))) : w.heap.size ≤ gb193));have n3_:=Aside0.mk ((by rw [hg];exact (below_size (by repeat (first|(with_reducible first|exact HB.out|apply below_alloc|apply pw_below_drewN|apply below_drew1)|exact HB.out))) : w.heap.size ≤ gb193));clear HB;have HB:=n0_;have BK193:=n1_;have GW193:=n2_;have GE193:=n3_;clear n0_ n1_ n2_ n3_;clear hb hbox hg)|((with_reducible refine gate_dst (N:=3) rfl ?_);refine box_event ?hg (N:=3) ?hd (cs:=#[.slice A1_0 l1_0.length c1_0]) (t:=85) ?hr ?_;(case hd => rfl);(case hg => rfl);(case hr => first|(go_simp;done)|(go_simp;rfl));intro gb194 hg w5 hbox hb;have n0_:=Aside0.mk (blk_below (g:=gb193) (o:=.cells #[.slice A0_0 l0_0.length c0_0] 85 (0,0)) (by (with_reducible repeat (first|refine blk_drewN ?_ _|refine blk_drew ?_|refine blk_alloc ?_ _));exact BK193.out) hb);have n1_:=Aside0.mk (below_step (by repeat (first|(with_reducible first|exact HB.out|apply below_alloc|apply pw_below_drewN|apply below_drew1|refine below_set ?_ GE193.out)|exact HB.out)) hb);have n2_:=Aside0.mk (hbox);have n3_:=Aside0.mk ((by rw [hg];exact (below_size (by repeat (first|(with_reducible first|exact HB.out|apply below_alloc|apply pw_below_drewN|apply below_drew1|refine below_set ?_ GE193.out)|exact HB.out))) : w.heap.size ≤ gb194));have n4_:=Aside0.mk ((by rw [hg];exact (below_size (by repeat (first|(with_reducible first|exact HB.out|apply below_alloc|apply pw_below_drewN|apply below_drew1|refine below_set ?_ GE193.out)|exact HB.out))) : w.heap.size ≤ gb194));have n5_:=Aside0.mk ((by rw [hg];exact Nat.ne_of_lt (blk_lt (g:=gb193) (o:=.cells #[.slice A0_0 l0_0.length c0_0] 85 (0,0)) (by (with_reducible repeat (first|refine blk_drewN ?_ _|refine blk_drew ?_|refine blk_alloc ?_ _));exact BK193.out)) : gb193 ≠ gb194));have n6_:=Aside0.mk ((by rw [hg];exact Nat.ne_of_gt (blk_lt (g:=gb193) (o:=.cells #[.slice A0_0 l0_0.length c0_0] 85 (0,0)) (by (with_reducible repeat (first|refine blk_drewN ?_ _|refine blk_drew ?_|refine blk_alloc ?_ _));exact BK193.out)) : gb194 ≠ gb193));clear BK193;clear HB;have BK193:=n0_;have HB:=n1_;have BK194:=n2_;have GW194:=n3_;have GE194:=n4_;have NB193_194:=n5_;have NB194_193:=n6_;clear n0_ n1_ n2_ n3_ n4_ n5_ n6_;clear hb hbox hg;have hnb6:=NB193_194.out;have hnc6:=NB194_193.out;have hcz7_0 : w5.cell? ⟨gb193,0,none⟩ = some (.slice A0_0 l0_0.length c0_0):=(blk_cell BK193.out 0).trans rfl;have hfz7_0:=blk_frozen BK193.out 0;have hcz8_0 : w5.cell? ⟨gb194,0,none⟩ = some (.slice A1_0 l1_0.length c1_0):=(blk_cell BK194.out 0).trans rfl;have hfz8_0:=blk_frozen BK194.out 0)))
 go_loopg [5] k (fun kq v5 w' => ∃ (x5_1 : Int),v5 = .int .i64 x5_1 ∧ Aside0 (bursarref03_Long_less.l0 kq x5_1 l0_0 l1_0 = some r) ∧ Aside0 (kq ≤ k) ∧ Aside0 (w'.heap[gb193]? = some (.cells #[(.slice A0_0 l0_0.length c0_0)] 85 (0,0))) ∧ Aside0 (w'.heap[gb194]? = some (.cells #[(.slice A1_0 l1_0.length c1_0)] 85 (0,0))) ∧ Aside0 (Below w.heap.size w w'))
 case atStart => exact ⟨(wrap64 ((l0_0.length : Int) - 1)),(by first|rfl|(simp;done)|(simp [*];done)|(simp;rw [Bool.eq_iff_iff];simp;done)|(rw [Bool.eq_iff_iff];simp;done)),H',⟨Nat.le_refl _⟩,⟨by (with_reducible repeat (first|refine blk_drewN ?_ _|refine blk_drew ?_|refine blk_alloc ?_ _));exact BK193.out⟩,⟨by (with_reducible repeat (first|refine blk_drewN ?_ _|refine blk_drew ?_|refine blk_alloc ?_ _));exact BK194.out⟩,⟨by repeat (first|(with_reducible first|exact HB.out|apply below_alloc|apply pw_below_drewN|apply below_drew1|refine below_set ?_ GE193.out|refine below_set ?_ GE194.out)|exact HB.out)⟩⟩
 case round =>
  clear H';(try clear c1);(try clear p2);(try clear c3);(try clear c3b0);(try clear c3b1);(try clear c3b2);(try clear c6);(try clear p6);(try clear c8);(try clear hcz7_0);(try clear hcz8_0);(try clear hfz7_0);(try clear hfz8_0)
  obtain ⟨x5_1,rfl,HA,HK1,BK193,BK194,HB⟩:=hrel
  cases gk with
 |zero => exact absurd HA.out (by simp [bursarref03_Long_less.l0])
 |succ k1 =>
   have H:=HA.out
   clear HA
   simp only [bursarref03_Long_less.l0] at H
   by_cases c9 : x5_1 ≥ 0
   rotate_left
   ·rw [if_neg c9] at H
    have c9b0 : decide (0 ≤ x5_1) = false:=decide_eq_false c9
    clear c9
    obtain rfl:=Option.some.inj H
    go_wp2
    repeat (go_quiet (fail);try go_wp2)
    go_ret
    exact ⟨by first|rfl|(simp [errW_none,errW_some] <;> rfl)|(simp [*,errW_none,errW_some] <;> rfl),by repeat (first|(with_reducible first|exact HB.out|apply below_alloc|apply pw_below_drewN|apply below_drew1|refine below_set ?_ GE193.out|refine below_set ?_ GE194.out)|exact HB.out)⟩
   rw [if_pos c9] at H
   have c9b0 : decide (0 ≤ x5_1) = true:=decide_eq_true c9
   clear c9
   by_cases c10 : 0 ≤ x5_1
   rotate_left
   ·rw [if_neg c10] at H
    exact absurd H (by simp)
   rw [if_pos c10] at H
   have c10b0 : decide (0 ≤ x5_1) = true:=decide_eq_true c10
   clear c10
   by_cases c11 : x5_1 < (l0_0.length : Int)
   rotate_left
   ·rw [if_neg c11] at H
    exact absurd H (by simp)
   rw [if_pos c11] at H
   have c11b0 : decide (x5_1 < (l0_0.length : Int)) = true:=decide_eq_true c11
   clear c11
   by_cases c12 : x5_1 < (l1_0.length : Int)
   rotate_left
   ·rw [if_neg c12] at H
    exact absurd H (by simp)
   rw [if_pos c12] at H
   have c12b0 : decide (x5_1 < (l1_0.length : Int)) = true:=decide_eq_true c12
   clear c12
   by_cases c13 : (rd l0_0 x5_1) = (rd l1_0 x5_1)
   ·rw [if_pos c13] at H
    have c13b0 : ((rd l0_0 x5_1) == (rd l1_0 x5_1)) = true:=beq_iff_eq.mpr c13
    have c13b1 : ((rd l0_0 x5_1) != (rd l1_0 x5_1)) = false:=bne_eq_false_iff_eq.mpr c13
    clear c13
    have H':=Aside0.mk H
    clear H
    have hnb14:=NB193_194.out
    have hnc14:=NB194_193.out
    have hcz15_0 : wr.cell? ⟨gb193,0,none⟩ = some (.slice A0_0 l0_0.length c0_0):=(blk_cell BK193.out 0).trans rfl
    have hfz15_0:=blk_frozen BK193.out 0
    have p195 : 0 ≤ (x5_1 : Int):=of_decide_eq_true (by first|(with_reducible assumption)|assumption)
    have q195 : x5_1 < (l0_0.length : Int):=of_decide_eq_true (by first|(with_reducible assumption)|assumption)
    obtain ⟨ad195,e195,hx195_0⟩:=Kd.at_int HR0_0.out x5_1 p195 q195
    cases e195
    replace hx195_0:=(HB.out.cell (World.block_lt_of_cell? w _ hx195_0)).trans hx195_0
    replace p195:=eq_true p195
    replace q195:=eq_true q195
    have hcz16_0 : wr.cell? ⟨gb194,0,none⟩ = some (.slice A1_0 l1_0.length c1_0):=(blk_cell BK194.out 0).trans rfl
    have hfz16_0:=blk_frozen BK194.out 0
    have p196 : 0 ≤ (x5_1 : Int):=of_decide_eq_true (by first|(with_reducible assumption)|assumption)
    have q196 : x5_1 < (l1_0.length : Int):=of_decide_eq_true (by first|(with_reducible assumption)|assumption)
    obtain ⟨ad196,e196,hx196_0⟩:=Kd.at_int HR1_0.out x5_1 p196 q196
    cases e196
    replace hx196_0:=(HB.out.cell (World.block_lt_of_cell? w _ hx196_0)).trans hx196_0
    replace p196:=eq_true p196
    replace q196:=eq_true q196
    go_wp2
    repeat (go_quiet (fail);try go_wp2)
    go_roundg k1
    case measure => have:=HK1.out;omega
    case rel => exact ⟨(wrap64 (x5_1 - 1)),(by first|rfl|(simp;done)|(simp [*];done)|(simp;rw [Bool.eq_iff_iff];simp;done)|(rw [Bool.eq_iff_iff];simp;done)),H',⟨by have:=HK1.out;omega⟩,⟨by (with_reducible repeat (first|refine blk_drewN ?_ _|refine blk_drew ?_|refine blk_alloc ?_ _));exact BK193.out⟩,⟨by (with_reducible repeat (first|refine blk_drewN ?_ _|refine blk_drew ?_|refine blk_alloc ?_ _));exact BK194.out⟩,⟨by repeat (first|(with_reducible first|exact HB.out|apply below_alloc|apply pw_below_drewN|apply below_drew1|refine below_set ?_ GE193.out|refine below_set ?_ GE194.out)|exact HB.out)⟩⟩
   rw [if_neg c13] at H
   have c13b0 : ((rd l0_0 x5_1) == (rd l1_0 x5_1)) = false:=beq_eq_false_iff_ne.mpr c13
   have c13b1 : ((rd l0_0 x5_1) != (rd l1_0 x5_1)) = true:=bne_iff_ne.mpr c13
   obtain rfl:=Option.some.inj H
   have hnb17:=NB193_194.out
   have hnc17:=NB194_193.out
   have hcz18_0 : wr.cell? ⟨gb193,0,none⟩ = some (.slice A0_0 l0_0.length c0_0):=(blk_cell BK193.out 0).trans rfl
   have hfz18_0:=blk_frozen BK193.out 0
   have p195 : 0 ≤ (x5_1 : Int):=of_decide_eq_true (by first|(with_reducible assumption)|assumption)
   have q195 : x5_1 < (l0_0.length : Int):=of_decide_eq_true (by first|(with_reducible assumption)|assumption)
   obtain ⟨ad195,e195,hx195_0⟩:=Kd.at_int HR0_0.out x5_1 p195 q195
   cases e195
   replace hx195_0:=(HB.out.cell (World.block_lt_of_cell? w _ hx195_0)).trans hx195_0
   replace p195:=eq_true p195
   replace q195:=eq_true q195
   have hcz19_0 : wr.cell? ⟨gb194,0,none⟩ = some (.slice A1_0 l1_0.length c1_0):=(blk_cell BK194.out 0).trans rfl
   have hfz19_0:=blk_frozen BK194.out 0
   have p196 : 0 ≤ (x5_1 : Int):=of_decide_eq_true (by first|(with_reducible assumption)|assumption)
   have q196 : x5_1 < (l1_0.length : Int):=of_decide_eq_true (by first|(with_reducible assumption)|assumption)
   obtain ⟨ad196,e196,hx196_0⟩:=Kd.at_int HR1_0.out x5_1 p196 q196
   cases e196
   replace hx196_0:=(HB.out.cell (World.block_lt_of_cell? w _ hx196_0)).trans hx196_0
   replace p196:=eq_true p196
   replace q196:=eq_true q196
   have p197 : 0 ≤ (x5_1 : Int):=of_decide_eq_true (by first|(with_reducible assumption)|assumption)
   have q197 : x5_1 < (l0_0.length : Int):=of_decide_eq_true (by first|(with_reducible assumption)|assumption)
   obtain ⟨ad197,e197,hx197_0⟩:=Kd.at_int HR0_0.out x5_1 p197 q197
   obtain rfl : ad195 = ad197:=(by injection e197)
   replace hx197_0:=(HB.out.cell (World.block_lt_of_cell? w _ hx197_0)).trans hx197_0
   replace p197:=eq_true p197
   replace q197:=eq_true q197
   have p198 : 0 ≤ (x5_1 : Int):=of_decide_eq_true (by first|(with_reducible assumption)|assumption)
   have q198 : x5_1 < (l1_0.length : Int):=of_decide_eq_true (by first|(with_reducible assumption)|assumption)
   obtain ⟨ad198,e198,hx198_0⟩:=Kd.at_int HR1_0.out x5_1 p198 q198
   obtain rfl : ad196 = ad198:=(by injection e198)
   replace hx198_0:=(HB.out.cell (World.block_lt_of_cell? w _ hx198_0)).trans hx198_0
   replace p198:=eq_true p198
   replace q198:=eq_true q198
   go_wp2
   repeat (go_quiet (fail);try go_wp2)
   go_ret
   exact ⟨by first|rfl|(simp [errW_none,errW_some] <;> rfl)|(simp [*,errW_none,errW_some] <;> rfl),by repeat (first|(with_reducible first|exact HB.out|apply below_alloc|apply pw_below_drewN|apply below_drew1|refine below_set ?_ GE193.out|refine below_set ?_ GE194.out)|exact HB.out)⟩
end Go.Proofs.YtejgbdclhlolkaaGreatDoor.Q
