/- What the statement QuantListsUptoCardSaid rests on, part 6 of 7: walks and plain laws; what of the printer's words it leans on. -/
import Derived.Test.YtejgbdclhlolkaaGreatDoorMQL3
import Derived.Test.YtejgbdclhlolkaaGreatDoorMQL4
import Derived.Test.YtejgbdclhlolkaaGreatDoorMQL5
import Derived.Lib.Hide
namespace Go.Proofs.YtejgbdclhlolkaaGreatDoor.Q
open Go.RowKit Go.Lib Go.Maps Go.Proofs.YtejgbdclhlolkaaGreatDoorW.PrintWords Go.Proofs.YtejgbdclhlolkaaGreatDoorW.PrintLast
set_option linter.unusedVariables false
set_option linter.unusedSimpArgs false
def minA : List S57 → List S57 → List S57
  | L, [] => L
  | L, a :: r => minA (insS L a.f0 a.f1) r
def minB : List S57 → List S57 → Option (List S57)
  | L, [] => some L
  | L, x :: r => if valOf L x.f0 < x.f1 then none else minB (insS L x.f0 (wrap64 (valOf L x.f0 - x.f1))) r
def minP (l0 l1 : List S57) : List S57 × Int := match minB (minA [] l0) l1 with
  | none => ([], 1)
  | some L => quant_listed.f L
def minOK (l0 l1 : List S57) : Bool := (l0.all fun x => decide (x.f0.size ≤ 48) && decide (-9223372036854775808 ≤ x.f1) && decide (x.f1 ≤ 9223372036854775807)) && (l1.all fun x => decide (x.f0.size ≤ 48)) && decide (l0.length + l1.length ≤ 9223372036854775807)
theorem minOK_a {l0 l1 : List S57} (h : minOK l0 l1 = true) : ∀ x ∈ l0, x.f0.size ≤ 48 ∧ -9223372036854775808 ≤ x.f1 ∧ x.f1 ≤ 9223372036854775807 := by
  unfold minOK at h
  simp only [Bool.and_eq_true, List.all_eq_true, decide_eq_true_eq] at h
  intro x hx
  obtain ⟨⟨h1, h2⟩, h3⟩ := h.1.1 x hx
  exact ⟨h1, h2, h3⟩
theorem minOK_b {l0 l1 : List S57} (h : minOK l0 l1 = true) : ∀ x ∈ l1, x.f0.size ≤ 48 := by
  unfold minOK at h
  simp only [Bool.and_eq_true, List.all_eq_true, decide_eq_true_eq] at h
  exact h.1.2
theorem minOK_len {l0 l1 : List S57} (h : minOK l0 l1 = true) : l0.length + l1.length ≤ 9223372036854775807 := by
  unfold minOK at h
  simp only [Bool.and_eq_true, decide_eq_true_eq] at h
  exact h.2
theorem wf_in {v : Int} (h0 : -9223372036854775808 ≤ v) (h1 : v ≤ 9223372036854775807) : (Lit.int .i64 v).wf = true := by
  have := RowKit.wrap64_wf v
  rwa [show wrap64 v = v by unfold wrap64; omega] at this
def quant_Minus.f (k : Nat) (l0 l1 : List S57) : Option (List S57 × Int) :=
  (quant_valid.f k l0 l1).bind fun t => if t = true then (if minOK l0 l1 = true then some (minP l0 l1) else none) else some ([], 31)
theorem quant_Minus.mono : ∀ a0 a1 k, LeO (quant_Minus.f k a0 a1) (quant_Minus.f (k + 1) a0 a1) := by
  intro a0 a1 k
  unfold quant_Minus.f
  exact LeO.bind (quant_valid.mono _ _ _) (fun _ => LeO.refl _)
set_option maxHeartbeats 8000000 in
set_option maxRecDepth 100000 in
theorem quant_Minus.calls (k : Nat) (A0 : Option Addr) (c0 : Nat) (l0 : List S57) (A1 : Option Addr) (c1 : Nat) (l1 : List S57) (r1 : List S57) (r2 : Int) (w : World) (hr0 : Kd.C k57 w A0 l0.length l0) (hc0 : l0.length ≤ c0) (hr1 : Kd.C k57 w A1 l1.length l1) (hc1 : l1.length ≤ c1) (h : quant_Minus.f k l0 l1 = some (r1, r2)) (hG : Glob w) :
    Calls Tryz.prog 42 #[.slice A0 l0.length c0, .slice A1 l1.length c1] w fun e w' => ∃ v0_ : Value, e = .returned (.tuple #[v0_, .int .i64 r2]) ∧ Kd.R k57 57 w' w.heap.size (fun _ => True) v0_ r1 ∧ Below w.heap.size w w' := by
  have hu57 := Tryz.underlying57
  have hmm := @run_makeMap Tryz.prog
  unfold quant_Minus.f at h
  obtain ⟨t, ht, h2⟩ := Option.bind_eq_some_iff.mp h
  clear h
  have HV := Lib.hid (quant_valid.calls k A0 c0 l0 A1 c1 l1 t w hr0 hc0 hr1 hc1 ht hG)
  have HR0 := Aside0.mk hr0
  have HR1 := Aside0.mk hr1
  have hl0 := hr0.2.1
  have hl1 := hr1.2.1
  clear hr0 hr1 hc0 hc1 ht
  cases t with
  | false =>
    rw [if_neg Bool.false_ne_true] at h2
    obtain ⟨rfl, rfl⟩ := Prod.mk.inj (Option.some.inj h2)
    clear h2
    go_enter Tryz.func42, Tryz.ntmps42
    go_wp2_with (go_at_call 73; refine HV.out.mono ?_; rintro e w1 ⟨rfl, hb⟩; have HB := Aside0.mk hb; clear hb)
    go_ret2
    exact ⟨_, rfl, Kd.R_nil _ _ _ _ _, HB.out⟩
  | true =>
    rw [if_pos rfl] at h2
    cases hok : minOK l0 l1 with
    | false => rw [hok, if_neg Bool.false_ne_true] at h2; cases h2
    | true =>
      rw [hok, if_pos rfl] at h2
      have HS := Lib.hid (Option.some.inj h2)
      have HA := Lib.hid (minOK_a hok)
      have HBN := Lib.hid (minOK_b hok)
      have hlen := minOK_len hok
      clear h2 hok
      go_enter Tryz.func42, Tryz.ntmps42
      go_wp2_with (go_at_call 73; refine HV.out.mono ?_; rintro e w1 ⟨rfl, hb⟩; have HB := Aside0.mk hb; have hsz1 := hb.size; clear hb)
      obtain ⟨gm, hgm⟩ : ∃ gm, gm = w1.heap.size := ⟨_, rfl⟩
      have HGM := Lib.hid hgm
      have HOWN0 := Aside0.mk (World.ownsMap_made w1 Tryz.prog 9 (plainElem (H := Unit) Tryz.prog 2))
      have HB0 := Aside0.mk (HB.out.alloc hsz1 (.map #[] 0))
      rw [← hgm] at HOWN0 hsz1
      rw [← hgm]
      clear hgm
      go_loopg [8, 18] l0.length (fun g v8 v18 wr => ∃ (i n : Nat) (D : DataW Unit) (L : List S57), v18 = .int .i64 i ∧ i ≤ l0.length ∧ l0.length ≤ i + g ∧ n ≤ i ∧ Aside0 (wr.ownsMap Tryz.prog 9 (plainElem (H := Unit) Tryz.prog 2) gm n D) ∧ Aside0 (Tells D L) ∧ Aside0 (minA [] l0 = minA L (l0.drop i)) ∧ Aside0 (Below w.heap.size w wr))
      case atStart => exact ⟨0, 0, _, [], rfl, by omega, by omega, by omega, HOWN0, ⟨tells_nil⟩, ⟨rfl⟩, HB0⟩
      case round =>
        clear HOWN0 HB0 HB
        obtain ⟨i, n, D, L, rfl, hin, hig, hnt, HOWN, HT, HGO, HBW⟩ := hrel
        by_cases hlt : i < l0.length
        · cases gk with
          | zero => omega
          | succ g =>
            obtain ⟨ad2, eA2, hy0, hy1⟩ := at_T57 HR0.out (i : Int) (by omega) (by omega)
            cases eA2
            rw [Int.toNat_natCast] at hy0 hy1
            replace hy0 := (HBW.out.cell (World.block_lt_of_cell? w _ hy0)).trans hy0
            replace hy1 := (HBW.out.cell (World.block_lt_of_cell? w _ hy1)).trans hy1
            have hax := HA.out (rd_T57 l0 (i : Int)) (by rw [rd_T57, Int.toNat_natCast, List.getD_eq_getElem?_getD, List.getElem?_eq_getElem hlt]; exact List.getElem_mem hlt)
            have HGO2 := Lib.hid (show minA [] l0 = minA (insS L (rd_T57 l0 (i : Int)).f0 (rd_T57 l0 (i : Int)).f1) (l0.drop (i + 1)) by rw [HGO.out, item_rest l0 i hlt, minA])
            clear HGO
            generalize (rd_T57 l0 (i : Int)).f0 = xs at *
            generalize (rd_T57 l0 (i : Int)).f1 = xv at *
            have h48x := hax.1
            have HWF := Lib.hid (wf_in hax.2.1 hax.2.2)
            clear hax
            have HOWN2 := Aside0.mk (HOWN.out.alloc (.cells #[.string xs, .int .i64 xv] 57))
            have HBQ2 := Aside0.mk (HBW.out.alloc HBW.out.size (.cells #[.string xs, .int .i64 xv] 57))
            have HT3 := Aside0.mk (HT.out.put xs xv)
            go_wp2_with (first
              | (at_mapUpdate; refine wpList_mapUpdate_own _ rfl _ _ _ 98 rfl 9 2 law9 Tryz.underlying98 _ gm n D rfl HOWN2.out (by unfold maxLen; omega) _ _ _ rfl rfl (key48 h48x) _ [] (plainElem_int Tryz.underlying2 HWF.out) ?_; intro w5 hown5 hgrow5)
              | go_in)
            have HB5 := Aside0.mk (HBQ2.out.grown hgrow5 HBQ2.out.size (fun k hk => by cases hk; exact hsz1))
            have HOWN5 := Aside0.mk hown5
            clear hown5 hgrow5
            go_roundg g
            case measure => omega
            case rel => exact ⟨i + 1, n + 1, _, _, by go_num, by omega, by omega, by omega, HOWN5, HT3, ⟨HGO2.out⟩, HB5⟩
        · obtain rfl : i = l0.length := by omega
          have HGO2 := Lib.hid (show minA [] l0 = L by rw [HGO.out, List.drop_length, minA])
          have HS2 := Lib.hid (show (match minB L l1 with | none => ([], 1) | some L => quant_listed.f L) = (r1, r2) by have := HS.out; unfold minP at this; rw [HGO2.out] at this; exact this)
          clear HGO
          go_wp2
          go_loopg [10, 30] l1.length (fun g v10 v30 wq => ∃ (j m : Nat) (E : DataW Unit) (M : List S57), v30 = .int .i64 j ∧ j ≤ l1.length ∧ l1.length ≤ j + g ∧ m ≤ l0.length + j ∧ Aside0 (wq.ownsMap Tryz.prog 9 (plainElem (H := Unit) Tryz.prog 2) gm m E) ∧ Aside0 (Tells E M) ∧ Aside0 (minB L l1 = minB M (l1.drop j)) ∧ Aside0 (Below w.heap.size w wq))
          case atStart => exact ⟨0, n, D, L, rfl, by omega, by omega, by omega, HOWN, HT, ⟨rfl⟩, HBW⟩
          case round =>
            clear HOWN HT
            obtain ⟨j, m, E, M, rfl, hjn, hjg, hmt, HOWN, HT, HGO, HBQ⟩ := hrel
            by_cases hjl : j < l1.length
            · cases gk with
              | zero => omega
              | succ g =>
                obtain ⟨ad2, eA2, hy0, hy1⟩ := at_T57 HR1.out (j : Int) (by omega) (by omega)
                cases eA2
                rw [Int.toNat_natCast] at hy0 hy1
                replace hy0 := (HBQ.out.cell (World.block_lt_of_cell? w _ hy0)).trans hy0
                replace hy1 := (HBQ.out.cell (World.block_lt_of_cell? w _ hy1)).trans hy1
                have h48x := HBN.out (rd_T57 l1 (j : Int)) (by rw [rd_T57, Int.toNat_natCast, List.getD_eq_getElem?_getD, List.getElem?_eq_getElem hjl]; exact List.getElem_mem hjl)
                have HGO3 := Lib.hid (show minB L l1 = if valOf M (rd_T57 l1 (j : Int)).f0 < (rd_T57 l1 (j : Int)).f1 then none else minB (insS M (rd_T57 l1 (j : Int)).f0 (wrap64 (valOf M (rd_T57 l1 (j : Int)).f0 - (rd_T57 l1 (j : Int)).f1))) (l1.drop (j + 1)) by rw [HGO.out, item_rest l1 j hjl, minB])
                clear HGO
                generalize (rd_T57 l1 (j : Int)).f0 = xs at *
                generalize (rd_T57 l1 (j : Int)).f1 = xv at *
                have HOWN2 := Aside0.mk (HOWN.out.alloc (.cells #[.string xs, .int .i64 xv] 57))
                have HBQ2 := Aside0.mk (HBQ.out.alloc HBQ.out.size (.cells #[.string xs, .int .i64 xv] 57))
                by_cases hlow : valOf M xs < xv
                · have h1 := HS2.out
                  rw [HGO3.out, if_pos hlow] at h1
                  obtain ⟨e1, e2⟩ := Prod.mk.inj h1
                  have E1 := Lib.hid e1
                  have E2 := Lib.hid e2
                  have dlow : decide (valOf M xs < xv) = true := decide_eq_true hlow
                  clear h1 e1 e2 hlow HGO3
                  go_wp2_with (first
                    | (at_lookup; refine lookup2 _ rfl _ _ rfl gm m E M HT.out rfl HOWN2.out xs h48x rfl ?_)
                    | go_in)
                  go_ret2
                  refine ⟨.slice none 0 0, ?_, by rw [← E1.out]; exact Kd.R_nil _ _ _ _ _, HBQ2.out⟩
                  rw [← E2.out]
                  try rfl
                · have HGO4 := Lib.hid (show minB L l1 = minB (insS M xs (wrap64 (valOf M xs - xv))) (l1.drop (j + 1)) by rw [HGO3.out, if_neg hlow])
                  have dlow : decide (valOf M xs < xv) = false := decide_eq_false hlow
                  have HT3 := Aside0.mk (HT.out.put xs (wrap64 (valOf M xs - xv)))
                  clear hlow HGO3
                  go_wp2_with (first
                    | (at_lookup; refine lookup2 _ rfl _ _ rfl gm m E M HT.out rfl HOWN2.out xs h48x rfl ?_)
                    | (at_mapUpdate; refine wpList_mapUpdate_own _ rfl _ _ _ 98 rfl 9 2 law9 Tryz.underlying98 _ gm m E rfl HOWN2.out (by unfold maxLen; omega) _ _ _ rfl rfl (key48 h48x) _ [] (plainElem_int Tryz.underlying2 (RowKit.wrap64_wf _)) ?_; intro w5 hown5 hgrow5)
                    | go_in)
                  have HB5 := Aside0.mk (HBQ2.out.grown hgrow5 HBQ2.out.size (fun k hk => by cases hk; exact hsz1))
                  have HOWN5 := Aside0.mk hown5
                  clear hown5 hgrow5
                  go_roundg g
                  case measure => omega
                  case rel => exact ⟨j + 1, m + 1, _, _, by go_num, by omega, by omega, by omega, HOWN5, HT3, ⟨HGO4.out⟩, HB5⟩
            · obtain rfl : j = l1.length := by omega
              have HQ := Lib.hid (show quant_listed.f M = (r1, r2) by have := HS2.out; rw [HGO.out, List.drop_length, minB] at this; exact this)
              clear HGO
              go_wp2_with (go_at_call 74; refine (quant_listed.calls gm m E M r1 r2 _ HOWN.out HT.out HQ.out).mono ?_; rintro e w4 ⟨v4, rfl, ho4, hb4⟩; have HO4 := Aside0.mk (Kd.R_lower ho4 HBQ.out.size); have HB4 := Aside0.mk (below_step HBQ.out hb4); clear ho4 hb4)
              go_ret2
              exact ⟨_, rfl, HO4.out, HB4.out⟩
end Go.Proofs.YtejgbdclhlolkaaGreatDoor.Q
namespace Go.Proofs.YtejgbdclhlolkaaGreatDoor.Q
open Go.RowKit Go.Proofs.YtejgbdclhlolkaaGreatDoorW.PrintWords Go.Proofs.YtejgbdclhlolkaaGreatDoorW.PrintLast Go.Proofs.YtejgbdclhlolkaaGreatDoorW.PrintMore
attribute [local go_sem] max2_int min2_int max_two min_two max_three min_three max_four min_four   -- for this text's walks alone
set_option linter.unusedVariables false
set_option linter.unusedSimpArgs false
mutual
def bursarlaw03_QuantLists.j0 : Nat → List (S57) → List (S57) → List (S57) → List (S57) → Bool → Option (Bool)
|0,_,_,_,_,_ => none
|k + 1,x0,x1,x5,x6,x33 => if x33 = true then (none) else (if 0 ≤ (x0.length : Int) then (if (x0.length : Int) ≤ (x5.length : Int) then ((quant_Normal.f k (x5.take ((x0.length : Int) : Int).toNat)).bind fun bt814 => ((bursarref03_Normal.f k x0).bind fun bt818 => (if bt814.2 = bt818.2 then ((bursarlaw03_same.f k bt814.1 bt818.1).bind fun t822 => (if t822 = true then ((bursarlaw03_untouched.f k x5 x0).bind fun t823 => (bursarlaw03_QuantLists.j1 k x0 x1 x5 x6 (!t823))) else (bursarlaw03_QuantLists.j1 k x0 x1 x5 x6 true))) else (bursarlaw03_QuantLists.j1 k x0 x1 x5 x6 true)))) else (none)) else (none))
def bursarlaw03_QuantLists.j1 : Nat → List (S57) → List (S57) → List (S57) → List (S57) → Bool → Option (Bool)
|0,_,_,_,_,_ => none
|k + 1,x0,x1,x5,x6,x61 => if x61 = true then (none) else (if 0 ≤ (x0.length : Int) then (if (x0.length : Int) ≤ (x5.length : Int) then (if 0 ≤ (x1.length : Int) then (if (x1.length : Int) ≤ (x6.length : Int) then ((quant_Plus.f k (x5.take ((x0.length : Int) : Int).toNat) (x6.take ((x1.length : Int) : Int).toNat)).bind fun bt832 => ((bursarref03_Plus.f k x0 x1).bind fun bt836 => (if bt832.2 = bt836.2 then ((bursarlaw03_same.f k bt832.1 bt836.1).bind fun t840 => (if t840 = true then ((bursarlaw03_untouched.f k x5 x0).bind fun t841 => (if t841 = true then ((bursarlaw03_untouched.f k x6 x1).bind fun t842 => (bursarlaw03_QuantLists.j2 k x0 x1 x5 x6 (!t842))) else (bursarlaw03_QuantLists.j2 k x0 x1 x5 x6 true))) else (bursarlaw03_QuantLists.j2 k x0 x1 x5 x6 true))) else (bursarlaw03_QuantLists.j2 k x0 x1 x5 x6 true)))) else (none)) else (none)) else (none)) else (none))
def bursarlaw03_QuantLists.j2 : Nat → List (S57) → List (S57) → List (S57) → List (S57) → Bool → Option (Bool)
|0,_,_,_,_,_ => none
|k + 1,x0,x1,x5,x6,x100 => if x100 = true then (none) else (if 0 ≤ (x0.length : Int) then (if (x0.length : Int) ≤ (x5.length : Int) then (if 0 ≤ (x1.length : Int) then (if (x1.length : Int) ≤ (x6.length : Int) then ((quant_Minus.f k (x5.take ((x0.length : Int) : Int).toNat) (x6.take ((x1.length : Int) : Int).toNat)).bind fun bt851 => ((bursarref03_Minus.f k x0 x1).bind fun bt855 => (if bt851.2 = bt855.2 then ((bursarlaw03_same.f k bt851.1 bt855.1).bind fun t859 => (if t859 = true then ((bursarlaw03_untouched.f k x5 x0).bind fun t860 => (if t860 = true then ((bursarlaw03_untouched.f k x6 x1).bind fun t861 => (bursarlaw03_QuantLists.j3 k x0 x1 x5 x6 (!t861))) else (bursarlaw03_QuantLists.j3 k x0 x1 x5 x6 true))) else (bursarlaw03_QuantLists.j3 k x0 x1 x5 x6 true))) else (bursarlaw03_QuantLists.j3 k x0 x1 x5 x6 true)))) else (none)) else (none)) else (none)) else (none))
def bursarlaw03_QuantLists.j3 : Nat → List (S57) → List (S57) → List (S57) → List (S57) → Bool → Option (Bool)
|0,_,_,_,_,_ => none
|k + 1,x0,x1,x5,x6,x139 => if x139 = true then (none) else (if 0 ≤ (x0.length : Int) then (if (x0.length : Int) ≤ (x5.length : Int) then (if 0 ≤ (x1.length : Int) then (if (x1.length : Int) ≤ (x6.length : Int) then ((quant_Within.f k (x5.take ((x0.length : Int) : Int).toNat) (x6.take ((x1.length : Int) : Int).toNat)).bind fun bt870 => ((bursarref03_Within.f k x0 x1).bind fun bt872 => (if bt870.2 = bt872.2 then (if bt870.1.toList = bt872.1.toList then ((bursarlaw03_untouched.f k x5 x0).bind fun t874 => (if t874 = true then ((bursarlaw03_untouched.f k x6 x1).bind fun t875 => (some t875)) else (none))) else (none)) else (none)))) else (none)) else (none)) else (none)) else (none))
end
def bursarlaw03_QuantLists.f (k : Nat) (l0 : List (S57)) (l1 : List (S57)) : Option (Bool) := (bursarlaw03_known.f k).bind fun t796 => (if t796 = true then ((bursarlaw03_behind.f l0).bind fun t797 => ((bursarlaw03_behind.f l1).bind fun t800 => (if 0 ≤ (l0.length : Int) then (if (l0.length : Int) ≤ (t797.length : Int) then ((quant_Valid.f k (t797.take ((l0.length : Int) : Int).toNat)).bind fun t807 => ((bursarref03_Valid.f k l0).bind fun t808 => (if t807 = t808 then ((bursarlaw03_untouched.f k t797 l0).bind fun t809 => (bursarlaw03_QuantLists.j0 k l0 l1 t797 t800 (!t809))) else (bursarlaw03_QuantLists.j0 k l0 l1 t797 t800 true)))) else (none)) else (none)))) else (none))
theorem bursarlaw03_QuantLists.mono_l : ∀ k, (∀ y0 y1 y2 y3 y4, LeO (bursarlaw03_QuantLists.j0 k y0 y1 y2 y3 y4) (bursarlaw03_QuantLists.j0 (k + 1) y0 y1 y2 y3 y4)) ∧ (∀ y0 y1 y2 y3 y4, LeO (bursarlaw03_QuantLists.j1 k y0 y1 y2 y3 y4) (bursarlaw03_QuantLists.j1 (k + 1) y0 y1 y2 y3 y4)) ∧ (∀ y0 y1 y2 y3 y4, LeO (bursarlaw03_QuantLists.j2 k y0 y1 y2 y3 y4) (bursarlaw03_QuantLists.j2 (k + 1) y0 y1 y2 y3 y4)) ∧ (∀ y0 y1 y2 y3 y4, LeO (bursarlaw03_QuantLists.j3 k y0 y1 y2 y3 y4) (bursarlaw03_QuantLists.j3 (k + 1) y0 y1 y2 y3 y4))
|0 => ⟨fun _ _ _ _ _ r h => by simp [bursarlaw03_QuantLists.j0] at h,fun _ _ _ _ _ r h => by simp [bursarlaw03_QuantLists.j1] at h,fun _ _ _ _ _ r h => by simp [bursarlaw03_QuantLists.j2] at h,fun _ _ _ _ _ r h => by simp [bursarlaw03_QuantLists.j3] at h⟩
|k + 1 => by
  obtain ⟨ih0,ih1,ih2,ih3⟩:=bursarlaw03_QuantLists.mono_l k
  refine ⟨?_,?_,?_,?_⟩
  ·intro y0 y1 y2 y3 y4
   unfold bursarlaw03_QuantLists.j0
   repeat' first
  |(with_reducible exact ih0 _ _ _ _ _)
  |(with_reducible exact ih1 _ _ _ _ _)
  |(with_reducible exact ih2 _ _ _ _ _)
  |(with_reducible exact ih3 _ _ _ _ _)
  |(with_reducible exact bursarlaw03_known.mono _)
  |(with_reducible exact bursarlaw03_same.mono _ _ _)
  |(with_reducible exact bursarlaw03_untouched.mono _ _ _)
  |(with_reducible exact bursarref03_Minus.mono _ _ _)
  |(with_reducible exact bursarref03_Normal.mono _ _)
  |(with_reducible exact bursarref03_Plus.mono _ _ _)
  |(with_reducible exact bursarref03_Valid.mono _ _)
  |(with_reducible exact bursarref03_Within.mono _ _ _)
  |(with_reducible exact quant_Minus.mono _ _ _)
  |(with_reducible exact quant_Normal.mono _ _)
  |(with_reducible exact quant_Plus.mono _ _ _)
  |(with_reducible exact quant_Valid.mono _ _)
  |(with_reducible exact quant_Within.mono _ _ _)
  |(with_reducible exact LeO.refl _)
  |(with_reducible exact LeO.none _)
  |(with_reducible refine LeO.ite ?_ ?_)
  |(with_reducible refine LeO.bind ?_ (fun _ => ?_))
  |exact ih0 _ _ _ _ _
  |exact ih1 _ _ _ _ _
  |exact ih2 _ _ _ _ _
  |exact ih3 _ _ _ _ _
  |exact bursarlaw03_known.mono _
  |exact bursarlaw03_same.mono _ _ _
  |exact bursarlaw03_untouched.mono _ _ _
  |exact bursarref03_Minus.mono _ _ _
  |exact bursarref03_Normal.mono _ _
  |exact bursarref03_Plus.mono _ _ _
  |exact bursarref03_Valid.mono _ _
  |exact bursarref03_Within.mono _ _ _
  |exact quant_Minus.mono _ _ _
  |exact quant_Normal.mono _ _
  |exact quant_Plus.mono _ _ _
  |exact quant_Valid.mono _ _
  |exact quant_Within.mono _ _ _
  |exact LeO.none _
  |refine LeO.ite ?_ ?_
  |refine LeO.bind ?_ (fun _ => ?_)
  ·intro y0 y1 y2 y3 y4
   unfold bursarlaw03_QuantLists.j1
   repeat' first
  |(with_reducible exact ih0 _ _ _ _ _)
  |(with_reducible exact ih1 _ _ _ _ _)
  |(with_reducible exact ih2 _ _ _ _ _)
  |(with_reducible exact ih3 _ _ _ _ _)
  |(with_reducible exact bursarlaw03_known.mono _)
  |(with_reducible exact bursarlaw03_same.mono _ _ _)
  |(with_reducible exact bursarlaw03_untouched.mono _ _ _)
  |(with_reducible exact bursarref03_Minus.mono _ _ _)
  |(with_reducible exact bursarref03_Normal.mono _ _)
  |(with_reducible exact bursarref03_Plus.mono _ _ _)
  |(with_reducible exact bursarref03_Valid.mono _ _)
  |(with_reducible exact bursarref03_Within.mono _ _ _)
  |(with_reducible exact quant_Minus.mono _ _ _)
  |(with_reducible exact quant_Normal.mono _ _)
  |(with_reducible exact quant_Plus.mono _ _ _)
  |(with_reducible exact quant_Valid.mono _ _)
  |(with_reducible exact quant_Within.mono _ _ _)
  |(with_reducible exact LeO.refl _)
  |(with_reducible exact LeO.none _)
  |(with_reducible refine LeO.ite ?_ ?_)
  |(with_reducible refine LeO.bind ?_ (fun _ => ?_))
  |exact ih0 _ _ _ _ _
  |exact ih1 _ _ _ _ _
  |exact ih2 _ _ _ _ _
  |exact ih3 _ _ _ _ _
  |exact bursarlaw03_known.mono _
  |exact bursarlaw03_same.mono _ _ _
  |exact bursarlaw03_untouched.mono _ _ _
  |exact bursarref03_Minus.mono _ _ _
  |exact bursarref03_Normal.mono _ _
  |exact bursarref03_Plus.mono _ _ _
  |exact bursarref03_Valid.mono _ _
  |exact bursarref03_Within.mono _ _ _
  |exact quant_Minus.mono _ _ _
  |exact quant_Normal.mono _ _
  |exact quant_Plus.mono _ _ _
  |exact quant_Valid.mono _ _
  |exact quant_Within.mono _ _ _
  |exact LeO.none _
  |refine LeO.ite ?_ ?_
  |refine LeO.bind ?_ (fun _ => ?_)
  ·intro y0 y1 y2 y3 y4
   unfold bursarlaw03_QuantLists.j2
   repeat' first
  |(with_reducible exact ih0 _ _ _ _ _)
  |(with_reducible exact ih1 _ _ _ _ _)
  |(with_reducible exact ih2 _ _ _ _ _)
  |(with_reducible exact ih3 _ _ _ _ _)
  |(with_reducible exact bursarlaw03_known.mono _)
  |(with_reducible exact bursarlaw03_same.mono _ _ _)
  |(with_reducible exact bursarlaw03_untouched.mono _ _ _)
  |(with_reducible exact bursarref03_Minus.mono _ _ _)
  |(with_reducible exact bursarref03_Normal.mono _ _)
  |(with_reducible exact bursarref03_Plus.mono _ _ _)
  |(with_reducible exact bursarref03_Valid.mono _ _)
  |(with_reducible exact bursarref03_Within.mono _ _ _)
  |(with_reducible exact quant_Minus.mono _ _ _)
  |(with_reducible exact quant_Normal.mono _ _)
  |(with_reducible exact quant_Plus.mono _ _ _)
  |(with_reducible exact quant_Valid.mono _ _)
  |(with_reducible exact quant_Within.mono _ _ _)
  |(with_reducible exact LeO.refl _)
  |(with_reducible exact LeO.none _)
  |(with_reducible refine LeO.ite ?_ ?_)
  |(with_reducible refine LeO.bind ?_ (fun _ => ?_))
  |exact ih0 _ _ _ _ _
  |exact ih1 _ _ _ _ _
  |exact ih2 _ _ _ _ _
  |exact ih3 _ _ _ _ _
  |exact bursarlaw03_known.mono _
  |exact bursarlaw03_same.mono _ _ _
  |exact bursarlaw03_untouched.mono _ _ _
  |exact bursarref03_Minus.mono _ _ _
  |exact bursarref03_Normal.mono _ _
  |exact bursarref03_Plus.mono _ _ _
  |exact bursarref03_Valid.mono _ _
  |exact bursarref03_Within.mono _ _ _
  |exact quant_Minus.mono _ _ _
  |exact quant_Normal.mono _ _
  |exact quant_Plus.mono _ _ _
  |exact quant_Valid.mono _ _
  |exact quant_Within.mono _ _ _
  |exact LeO.none _
  |refine LeO.ite ?_ ?_
  |refine LeO.bind ?_ (fun _ => ?_)
  ·intro y0 y1 y2 y3 y4
   unfold bursarlaw03_QuantLists.j3
   repeat' first
  |(with_reducible exact ih0 _ _ _ _ _)
  |(with_reducible exact ih1 _ _ _ _ _)
  |(with_reducible exact ih2 _ _ _ _ _)
  |(with_reducible exact ih3 _ _ _ _ _)
  |(with_reducible exact bursarlaw03_known.mono _)
  |(with_reducible exact bursarlaw03_same.mono _ _ _)
  |(with_reducible exact bursarlaw03_untouched.mono _ _ _)
  |(with_reducible exact bursarref03_Minus.mono _ _ _)
  |(with_reducible exact bursarref03_Normal.mono _ _)
  |(with_reducible exact bursarref03_Plus.mono _ _ _)
  |(with_reducible exact bursarref03_Valid.mono _ _)
  |(with_reducible exact bursarref03_Within.mono _ _ _)
  |(with_reducible exact quant_Minus.mono _ _ _)
  |(with_reducible exact quant_Normal.mono _ _)
  |(with_reducible exact quant_Plus.mono _ _ _)
  |(with_reducible exact quant_Valid.mono _ _)
  |(with_reducible exact quant_Within.mono _ _ _)
  |(with_reducible exact LeO.refl _)
  |(with_reducible exact LeO.none _)
  |(with_reducible refine LeO.ite ?_ ?_)
  |(with_reducible refine LeO.bind ?_ (fun _ => ?_))
  |exact ih0 _ _ _ _ _
  |exact ih1 _ _ _ _ _
  |exact ih2 _ _ _ _ _
  |exact ih3 _ _ _ _ _
  |exact bursarlaw03_known.mono _
  |exact bursarlaw03_same.mono _ _ _
  |exact bursarlaw03_untouched.mono _ _ _
  |exact bursarref03_Minus.mono _ _ _
  |exact bursarref03_Normal.mono _ _
  |exact bursarref03_Plus.mono _ _ _
  |exact bursarref03_Valid.mono _ _
  |exact bursarref03_Within.mono _ _ _
  |exact quant_Minus.mono _ _ _
  |exact quant_Normal.mono _ _
  |exact quant_Plus.mono _ _ _
  |exact quant_Valid.mono _ _
  |exact quant_Within.mono _ _ _
  |exact LeO.none _
  |refine LeO.ite ?_ ?_
  |refine LeO.bind ?_ (fun _ => ?_)
theorem bursarlaw03_QuantLists.mono : ∀ a0 a1 k, LeO (bursarlaw03_QuantLists.f k a0 a1) (bursarlaw03_QuantLists.f (k + 1) a0 a1) := by
 intro a0 a1 k
 obtain ⟨ih0,ih1,ih2,ih3⟩:=bursarlaw03_QuantLists.mono_l k
 unfold bursarlaw03_QuantLists.f
 repeat' first
  |(with_reducible exact ih0 _ _ _ _ _)
  |(with_reducible exact ih1 _ _ _ _ _)
  |(with_reducible exact ih2 _ _ _ _ _)
  |(with_reducible exact ih3 _ _ _ _ _)
  |(with_reducible exact bursarlaw03_known.mono _)
  |(with_reducible exact bursarlaw03_same.mono _ _ _)
  |(with_reducible exact bursarlaw03_untouched.mono _ _ _)
  |(with_reducible exact bursarref03_Minus.mono _ _ _)
  |(with_reducible exact bursarref03_Normal.mono _ _)
  |(with_reducible exact bursarref03_Plus.mono _ _ _)
  |(with_reducible exact bursarref03_Valid.mono _ _)
  |(with_reducible exact bursarref03_Within.mono _ _ _)
  |(with_reducible exact quant_Minus.mono _ _ _)
  |(with_reducible exact quant_Normal.mono _ _)
  |(with_reducible exact quant_Plus.mono _ _ _)
  |(with_reducible exact quant_Valid.mono _ _)
  |(with_reducible exact quant_Within.mono _ _ _)
  |(with_reducible exact LeO.refl _)
  |(with_reducible exact LeO.none _)
  |(with_reducible refine LeO.ite ?_ ?_)
  |(with_reducible refine LeO.bind ?_ (fun _ => ?_))
  |exact ih0 _ _ _ _ _
  |exact ih1 _ _ _ _ _
  |exact ih2 _ _ _ _ _
  |exact ih3 _ _ _ _ _
  |exact bursarlaw03_known.mono _
  |exact bursarlaw03_same.mono _ _ _
  |exact bursarlaw03_untouched.mono _ _ _
  |exact bursarref03_Minus.mono _ _ _
  |exact bursarref03_Normal.mono _ _
  |exact bursarref03_Plus.mono _ _ _
  |exact bursarref03_Valid.mono _ _
  |exact bursarref03_Within.mono _ _ _
  |exact quant_Minus.mono _ _ _
  |exact quant_Normal.mono _ _
  |exact quant_Plus.mono _ _ _
  |exact quant_Valid.mono _ _
  |exact quant_Within.mono _ _ _
  |exact LeO.none _
  |refine LeO.ite ?_ ?_
  |refine LeO.bind ?_ (fun _ => ?_)
def bursarlaw03_QuantLists.T12 : Bool × List (List Nat × List Nat) := (true, [([], []), ([], []), ([1], [1]), ([0, 2], [0, 2]), ([], []), ([], []), ([5], [5]), ([4, 6], [4, 6]), ([3, 7], [3, 7]), ([8], [8]), ([9], [9]), ([9], [9]), ([10, 8, 0, 1, 2, 3, 4, 5, 6, 7, 8, 9, 10], [10]), ([11, 12, 0, 1, 2, 3, 4, 5, 6, 7, 8, 9, 10, 11, 12], [11])])
def bursarlaw03_QuantLists.B12 : List Nat := [0, 0, 2, 7, 0, 0, 32, 112, 255, 511, 1023, 1023, 2047, 8191]
theorem bursarlaw03_QuantLists.tab12 : rtab .any (opsOf Tryz.f15 12) = bursarlaw03_QuantLists.T12 := by kernel_rfl
theorem bursarlaw03_QuantLists.bits12 : waitsOk bursarlaw03_QuantLists.T12.2 bursarlaw03_QuantLists.B12 = true := by kernel_rfl
def bursarlaw03_QuantLists.T16 : Bool × List (List Nat × List Nat) := (true, [([], []), ([], []), ([1], [1]), ([0, 2], [0, 2]), ([], []), ([], []), ([5], [5]), ([4, 6], [4, 6]), ([3, 7], [3, 7]), ([8], [8]), ([9], [9]), ([9], [9]), ([10, 8, 0, 1, 2, 3, 4, 5, 6, 7, 8, 9, 10], [10]), ([11, 12, 0, 1, 2, 3, 4, 5, 6, 7, 8, 9, 10, 11, 12], [11])])
def bursarlaw03_QuantLists.B16 : List Nat := [0, 0, 2, 7, 0, 0, 32, 112, 255, 511, 1023, 1023, 2047, 8191]
theorem bursarlaw03_QuantLists.tab16 : rtab .any (opsOf Tryz.f15 16) = bursarlaw03_QuantLists.T16 := by kernel_rfl
theorem bursarlaw03_QuantLists.bits16 : waitsOk bursarlaw03_QuantLists.T16.2 bursarlaw03_QuantLists.B16 = true := by kernel_rfl
def bursarlaw03_QuantLists.T20 : Bool × List (List Nat × List Nat) := (true, [([], []), ([], []), ([1], [1]), ([0, 2], [0, 2]), ([], []), ([], []), ([5], [5]), ([4, 6], [4, 6]), ([3, 7], [3, 7]), ([8], [8]), ([9], [9]), ([9], [9]), ([10, 8, 0, 1, 2, 3, 4, 5, 6, 7, 8, 9, 10], [10]), ([11, 12, 0, 1, 2, 3, 4, 5, 6, 7, 8, 9, 10, 11, 12], [11])])
def bursarlaw03_QuantLists.B20 : List Nat := [0, 0, 2, 7, 0, 0, 32, 112, 255, 511, 1023, 1023, 2047, 8191]
theorem bursarlaw03_QuantLists.tab20 : rtab .any (opsOf Tryz.f15 20) = bursarlaw03_QuantLists.T20 := by kernel_rfl
theorem bursarlaw03_QuantLists.bits20 : waitsOk bursarlaw03_QuantLists.T20.2 bursarlaw03_QuantLists.B20 = true := by kernel_rfl
set_option maxHeartbeats 64000000 in
set_option maxRecDepth 100000 in
theorem bursarlaw03_QuantLists.calls (k : Nat) (A0 : Option Addr) (c0 : Nat) (l0 : List (S57)) (A1 : Option Addr) (c1 : Nat) (l1 : List (S57)) (r : Bool) (w : World) (hr0 : Kd.C k57 w A0 l0.length l0) (hc0 : l0.length ≤ c0) (hr1 : Kd.C k57 w A1 l1.length l1) (hc1 : l1.length ≤ c1) (h : bursarlaw03_QuantLists.f k l0 l1 = some r) (hG : GlobM w) :
  Calls Tryz.prog 15 #[.slice A0 l0.length c0,.slice A1 l1.length c1] w fun e w' => e = .returned (.bool r) ∧ Below w.heap.size w w':=by
 have HR0:=Aside0.mk hr0
 have HC0:=Aside0.mk hc0
 clear hr0 hc0
 have HR1:=Aside0.mk hr1
 have HC1:=Aside0.mk hc1
 clear hr1 hc1
 have HB:=Aside0.mk (Below.refl w.heap.size w)
 have H : ((bursarlaw03_known.f k).bind fun t796 => (if t796 = true then ((bursarlaw03_behind.f l0).bind fun t797 => ((bursarlaw03_behind.f l1).bind fun t800 => (if 0 ≤ (l0.length : Int) then (if (l0.length : Int) ≤ (t797.length : Int) then ((quant_Valid.f k (t797.take ((l0.length : Int) : Int).toNat)).bind fun t807 => ((bursarref03_Valid.f k l0).bind fun t808 => (if t807 = t808 then ((bursarlaw03_untouched.f k t797 l0).bind fun t809 => (bursarlaw03_QuantLists.j0 k l0 l1 t797 t800 (!t809))) else (bursarlaw03_QuantLists.j0 k l0 l1 t797 t800 true)))) else (none)) else (none)))) else (none))) = some r:=h
 clear h
 replace H:=Option.bind_eq_some_iff.mp H
 obtain ⟨t796,A30,H⟩:=H
 replace H : (if t796 = true then ((bursarlaw03_behind.f l0).bind fun t797 => ((bursarlaw03_behind.f l1).bind fun t800 => (if 0 ≤ (l0.length : Int) then (if (l0.length : Int) ≤ (t797.length : Int) then ((quant_Valid.f k (t797.take ((l0.length : Int) : Int).toNat)).bind fun t807 => ((bursarref03_Valid.f k l0).bind fun t808 => (if t807 = t808 then ((bursarlaw03_untouched.f k t797 l0).bind fun t809 => (bursarlaw03_QuantLists.j0 k l0 l1 t797 t800 (!t809))) else (bursarlaw03_QuantLists.j0 k l0 l1 t797 t800 true)))) else (none)) else (none)))) else (none)) = some r:=H
 have A3:=Aside0.mk A30
 clear A30
 by_cases c4 : t796 = true
 rotate_left
 ·replace c4:=Bool.eq_false_iff.mpr c4
  subst c4
  have H1 : (none) = some r:=by rw [if_neg (show ¬ (false = true) by decide)] at H;exact H
  clear H;have H:=H1;clear H1
  exact absurd H (by simp)
 subst c4
 have H1 : ((bursarlaw03_behind.f l0).bind fun t797 => ((bursarlaw03_behind.f l1).bind fun t800 => (if 0 ≤ (l0.length : Int) then (if (l0.length : Int) ≤ (t797.length : Int) then ((quant_Valid.f k (t797.take ((l0.length : Int) : Int).toNat)).bind fun t807 => ((bursarref03_Valid.f k l0).bind fun t808 => (if t807 = t808 then ((bursarlaw03_untouched.f k t797 l0).bind fun t809 => (bursarlaw03_QuantLists.j0 k l0 l1 t797 t800 (!t809))) else (bursarlaw03_QuantLists.j0 k l0 l1 t797 t800 true)))) else (none)) else (none)))) = some r:=by rw [if_pos rfl] at H;exact H
 clear H;have H:=H1;clear H1
 replace H:=Option.bind_eq_some_iff.mp H
 obtain ⟨t797,A50,H⟩:=H
 replace H : ((bursarlaw03_behind.f l1).bind fun t800 => (if 0 ≤ (l0.length : Int) then (if (l0.length : Int) ≤ (t797.length : Int) then ((quant_Valid.f k (t797.take ((l0.length : Int) : Int).toNat)).bind fun t807 => ((bursarref03_Valid.f k l0).bind fun t808 => (if t807 = t808 then ((bursarlaw03_untouched.f k t797 l0).bind fun t809 => (bursarlaw03_QuantLists.j0 k l0 l1 t797 t800 (!t809))) else (bursarlaw03_QuantLists.j0 k l0 l1 t797 t800 true)))) else (none)) else (none))) = some r:=H
 have A5:=Aside0.mk A50
 clear A50
 replace H:=Option.bind_eq_some_iff.mp H
 obtain ⟨t800,A60,H⟩:=H
 replace H : (if 0 ≤ (l0.length : Int) then (if (l0.length : Int) ≤ (t797.length : Int) then ((quant_Valid.f k (t797.take ((l0.length : Int) : Int).toNat)).bind fun t807 => ((bursarref03_Valid.f k l0).bind fun t808 => (if t807 = t808 then ((bursarlaw03_untouched.f k t797 l0).bind fun t809 => (bursarlaw03_QuantLists.j0 k l0 l1 t797 t800 (!t809))) else (bursarlaw03_QuantLists.j0 k l0 l1 t797 t800 true)))) else (none)) else (none)) = some r:=H
 have A6:=Aside0.mk A60
 clear A60
 by_cases c7 : 0 ≤ (l0.length : Int)
 rotate_left
 ·rw [if_neg c7] at H
  exact absurd H (by simp)
 rw [if_pos c7] at H
 have c7b0:=eq_true c7
 have c7b1 : decide (0 ≤ (l0.length : Int)) = true:=decide_eq_true c7
 clear c7
 by_cases c8 : (l0.length : Int) ≤ (t797.length : Int)
 rotate_left
 ·rw [if_neg c8] at H
  exact absurd H (by simp)
 rw [if_pos c8] at H
 have c8b0:=eq_true c8
 have c8b1 : decide ((l0.length : Int) ≤ (t797.length : Int)) = true:=decide_eq_true c8
 clear c8
 obtain ⟨y803,hy803⟩ : ∃ y_ : List (S57),y_ = (t797.take ((l0.length : Int) : Int).toNat):=⟨_,rfl⟩
 replace H : ((quant_Valid.f k y803).bind fun t807 => ((bursarref03_Valid.f k l0).bind fun t808 => (if t807 = t808 then ((bursarlaw03_untouched.f k t797 l0).bind fun t809 => (bursarlaw03_QuantLists.j0 k l0 l1 t797 t800 (!t809))) else (bursarlaw03_QuantLists.j0 k l0 l1 t797 t800 true)))) = some r:=by first|(rw [hy803];with_reducible exact H)|(have H2_:=(Option.bind_some _ _).symm.trans H;rw [hy803];with_reducible exact H2_)|(have H2_:=(Option.bind_some _ _).symm.trans H;with_reducible exact H2_)|with_reducible exact H|(rw [hy803];exact H)|exact H
 have Ny803:=Aside0.mk hy803
 clear hy803
 replace H:=Option.bind_eq_some_iff.mp H
 obtain ⟨t807,A90,H⟩:=H
 replace H : ((bursarref03_Valid.f k l0).bind fun t808 => (if t807 = t808 then ((bursarlaw03_untouched.f k t797 l0).bind fun t809 => (bursarlaw03_QuantLists.j0 k l0 l1 t797 t800 (!t809))) else (bursarlaw03_QuantLists.j0 k l0 l1 t797 t800 true))) = some r:=H
 have A9:=Aside0.mk A90
 clear A90
 have HC10:=Aside0.mk H
 clear H
 go_enter Tryz.func15,Tryz.ntmps15
 go_upto_region 6 with (first|((with_reducible refine gate_callee (f:=16) rfl ?_);refine goesL_ (some 13) rfl rfl Tryz.func16 (by kernel_rfl) rfl #[] rfl (by (try simp only [List.map_toArray,List.map_cons,List.map_nil]);first|done|rfl|(simp only [List.length_drop,List.length_take];rfl)) ?_;(with_reducible refine (bursarlaw03_known.calls k  true _ A3.out (Glob.below hG.toGlob (by repeat (first|(with_reducible first|exact HB.out|apply below_alloc|apply pw_below_drewN|apply below_drew1)|exact HB.out)))).mono ?_);rintro e w11 ⟨rfl,hb⟩;refine ⟨_,rfl,?_⟩;have n0_:=Aside0.mk (below_step (by repeat (first|(with_reducible first|exact HB.out|apply below_alloc|apply pw_below_drewN|apply below_drew1)|exact HB.out)) hb);clear HB;have HB:=n0_;clear n0_;(try clear hb);(try clear hb2);(try clear hk);(try clear hi))|((with_reducible refine gate_callee (f:=29) rfl ?_);refine goesL_ (some 16) rfl rfl Tryz.func29 (by kernel_rfl) rfl #[.slice A0 l0.length c0] rfl (by (try simp only [List.map_toArray,List.map_cons,List.map_nil]);first|done|rfl|(simp only [List.length_drop,List.length_take];rfl)) ?_;(with_reducible refine (bursarlaw03_behind.calls _ _ l0 t797 _ ?side1 ?side2 A5.out (GlobM.below hG (by repeat (first|(with_reducible first|exact HB.out|apply below_alloc|apply pw_below_drewN|apply below_drew1)|exact HB.out)))).mono ?_);(case side1 => repeat (first|exact (Kd.C_below HR0.out HB.out)|(with_reducible refine Kd.C_alloc ?_ _)|(with_reducible refine Kd.C_drewN ?_ _)|(with_reducible refine Kd.C_drew ?_)));(case side2 => exact HC0.out);rintro e w12 ⟨v798,rfl,ho0,hb⟩;refine ⟨_,rfl,?_⟩;have n0_:=Aside0.mk (Kd.R_lower ho0 (below_size (by repeat (first|(with_reducible first|exact HB.out|apply below_alloc|apply pw_below_drewN|apply below_drew1)|exact HB.out))));have n1_:=Aside0.mk (below_step (by repeat (first|(with_reducible first|exact HB.out|apply below_alloc|apply pw_below_drewN|apply below_drew1)|exact HB.out)) hb);clear HB;have HO799:=n0_;have HB:=n1_;clear n0_ n1_;(try clear hb);(try clear hb2);(try clear hk);(try clear hi);(try clear ho0))|((with_reducible refine gate_callee (f:=29) rfl ?_);refine goesL_ (some 18) rfl rfl Tryz.func29 (by kernel_rfl) rfl #[.slice A1 l1.length c1] rfl (by (try simp only [List.map_toArray,List.map_cons,List.map_nil]);first|done|rfl|(simp only [List.length_drop,List.length_take];rfl)) ?_;(with_reducible refine (bursarlaw03_behind.calls _ _ l1 t800 _ ?side1 ?side2 A6.out (GlobM.below hG (by repeat (first|(with_reducible first|exact HB.out|apply below_alloc|apply pw_below_drewN|apply below_drew1)|exact HB.out)))).mono ?_);(case side1 => repeat (first|exact (Kd.C_below HR1.out HB.out)|(with_reducible refine Kd.C_alloc ?_ _)|(with_reducible refine Kd.C_drewN ?_ _)|(with_reducible refine Kd.C_drew ?_)));(case side2 => exact HC1.out);rintro e w13 ⟨v801,rfl,ho0,hb⟩;refine ⟨_,rfl,?_⟩;have n0_:=Aside0.mk (Kd.R_elder' (by (with_reducible repeat (first|apply Kd.R_alloc|apply Kd.R_drewN|apply Kd.R_drew));exact HO799.out) (Kd.R_base ho0) hb);have n1_:=Aside0.mk (Kd.R_lower (Kd.R_new' ho0 (Kd.R_lt (by (with_reducible repeat (first|apply Kd.R_alloc|apply Kd.R_drewN|apply Kd.R_drew));exact HO799.out))) (below_size (by repeat (first|(with_reducible first|exact HB.out|apply below_alloc|apply pw_below_drewN|apply below_drew1)|exact HB.out))));have n2_:=Aside0.mk (below_step (by repeat (first|(with_reducible first|exact HB.out|apply below_alloc|apply pw_below_drewN|apply below_drew1)|exact HB.out)) hb);clear HO799;clear HB;have HO799:=n0_;have HO802:=n1_;have HB:=n2_;clear n0_ n1_ n2_;(try clear hb);(try clear hb2);(try clear hk);(try clear hi);(try clear ho0);obtain ⟨Ao15,co15,eo15⟩:=Kd.R_slice HO799.out;subst eo15;have q14 : ((l0.length : Int) : Int) ≤ ((t797.length : Int) : Int):=of_decide_eq_true (by first|(with_reducible assumption)|assumption);obtain ⟨i014,hi014,_,hsz14,_⟩:=info_parts info57;have hroom14 : t797.length ≤ co15:=(Kd.R_reads' HO799.out).2.1;have hC14 : Kd.C k57 _ Ao15 t797.length t797:=(Kd.R_reads' HO799.out).2.2;have hcut14:=cut_to (P:=Tryz.prog) 46 57 .i64 Tryz.underlying46 hi014 Ao15 t797.length co15 (l0.length : Int) (of_decide_eq_true (by first|(with_reducible assumption)|assumption)) q14 hroom14;have hr14:=Kd.C_take (m:=((l0.length : Int) : Int).toNat) hC14 (by omega);have hy14 : y803.length = ((l0.length : Int) : Int).toNat:=(by rw [Ny803.out,List.length_take];omega);rw [← Ny803.out] at hr14;rw [← hy14] at hcut14;have HR806:=Aside0.mk hr14;have HC806:=Aside0.mk (show y803.length ≤ co15 from by omega);clear hr14 hC14 hroom14 hi014 hsz14;have KY14:=Aside0.mk hy14;clear hy14;have KL14:=Aside0.mk (show ((l0.length : Int) : Int).toNat ≤ t797.length from by omega);replace q14:=eq_true q14)|((with_reducible refine gate_callee (f:=40) rfl ?_);refine goesL_ (some 23) rfl rfl Tryz.func40 (by kernel_rfl) rfl #[.slice Ao15 y803.length co15] rfl (by (try simp only [List.map_toArray,List.map_cons,List.map_nil]);first|done|rfl|(simp only [List.length_drop,List.length_take];rfl)) ?_;(with_reducible refine (quant_Valid.calls k _ _ y803 t807 _ ?side1 ?side2 A9.out (Glob.below hG.toGlob (by repeat (first|(with_reducible first|exact HB.out|apply below_alloc|apply pw_below_drewN|apply below_drew1)|exact HB.out)))).mono ?_);(case side1 => repeat (first|exact (by repeat (first|(with_reducible exact HR806.out)|(with_reducible refine Kd.C_alloc ?_ _)|(with_reducible refine Kd.C_drewN ?_ _)|(with_reducible refine Kd.C_drew ?_)|exact HR806.out))|(with_reducible refine Kd.C_alloc ?_ _)|(with_reducible refine Kd.C_drewN ?_ _)|(with_reducible refine Kd.C_drew ?_)));(case side2 => exact HC806.out);rintro e w16 ⟨rfl,hb⟩;refine ⟨_,rfl,?_⟩;have n0_:=Aside0.mk (Kd.R_below (by (with_reducible repeat (first|apply Kd.R_alloc|apply Kd.R_drewN|apply Kd.R_drew));exact HO799.out) hb);have n1_:=Aside0.mk (Kd.R_below (by (with_reducible repeat (first|apply Kd.R_alloc|apply Kd.R_drewN|apply Kd.R_drew));exact HO802.out) hb);have n2_:=Aside0.mk ((show Kd.C k57 _ Ao15 y803.length y803 from Kd.C_below (by repeat (first|(with_reducible exact HR806.out)|(with_reducible refine Kd.C_alloc ?_ _)|(with_reducible refine Kd.C_drewN ?_ _)|(with_reducible refine Kd.C_drew ?_)|exact HR806.out)) hb));have n3_:=Aside0.mk (below_step (by repeat (first|(with_reducible first|exact HB.out|apply below_alloc|apply pw_below_drewN|apply below_drew1)|exact HB.out)) hb);clear HO799;clear HO802;clear HR806;clear HB;have HO799:=n0_;have HO802:=n1_;have HR806:=n2_;have HB:=n3_;clear n0_ n1_ n2_ n3_;(try clear hb);(try clear hb2);(try clear hk);(try clear hi)))
 (try simp only [Act.put,List.setIfInBounds_toArray,List.set_cons_zero,List.set_cons_succ])
 go_cut [33] (fun v33 wc => ∃ (kq : Nat) (x33_9 : Bool),v33 = .bool x33_9 ∧ Aside0 (bursarlaw03_QuantLists.j0 kq l0 l1 t797 t800 x33_9 = some r) ∧ Aside0 (kq ≤ k) ∧ Aside0 (Kd.R k57 57 wc w.heap.size (fun k_ => some k_ ≠ (v801 : Value).ownBlock) (.slice Ao15 t797.length co15) t797) ∧ Aside0 (Kd.R k57 57 wc w.heap.size (fun k_ => some k_ ≠ ((.slice Ao15 t797.length co15) : Value).ownBlock) v801 t800) ∧ Aside0 (Kd.C k57 wc Ao15 y803.length y803) ∧ Aside0 (Below w.heap.size w wc))
 case first => as_aux_lemma =>
  have H:=HC10.out
  clear HC10
  replace H:=Option.bind_eq_some_iff.mp H
  obtain ⟨t808,A170,H⟩:=H
  replace H : (if t807 = t808 then ((bursarlaw03_untouched.f k t797 l0).bind fun t809 => (bursarlaw03_QuantLists.j0 k l0 l1 t797 t800 (!t809))) else (bursarlaw03_QuantLists.j0 k l0 l1 t797 t800 true)) = some r:=H
  have A17:=Aside0.mk A170
  clear A170
  by_cases c18 : t807 = t808
  rotate_left
  ·rw [if_neg c18] at H
   have c18b0 : (t807 == t808) = false:=beq_eq_false_iff_ne.mpr c18
   have c18b1 : (t807 != t808) = true:=bne_iff_ne.mpr c18
   (first|rw [c18b0]|(simp only [i64_w,i32_w];rw [c18b0])|skip)
   have H':=Aside0.mk H
   clear H
   go_wp2_with (first|((with_reducible refine gate_callee (f:=45) rfl ?_);refine goesL_ (some 26) rfl rfl Tryz.func45 (by kernel_rfl) rfl #[.slice A0 l0.length c0] rfl (by (try simp only [List.map_toArray,List.map_cons,List.map_nil]);first|done|rfl|(simp only [List.length_drop,List.length_take];rfl)) ?_;(with_reducible refine (bursarref03_Valid.calls k _ _ l0 t808 _ ?side1 ?side2 A17.out).mono ?_);(case side1 => repeat (first|exact (Kd.C_below HR0.out HB.out)|(with_reducible refine Kd.C_alloc ?_ _)|(with_reducible refine Kd.C_drewN ?_ _)|(with_reducible refine Kd.C_drew ?_)));(case side2 => exact HC0.out);rintro e w22 ⟨rfl,hb⟩;refine ⟨_,rfl,?_⟩;have n0_:=Aside0.mk (Kd.R_below (by (with_reducible repeat (first|apply Kd.R_alloc|apply Kd.R_drewN|apply Kd.R_drew));exact HO799.out) hb);have n1_:=Aside0.mk (Kd.R_below (by (with_reducible repeat (first|apply Kd.R_alloc|apply Kd.R_drewN|apply Kd.R_drew));exact HO802.out) hb);have n2_:=Aside0.mk ((show Kd.C k57 _ Ao15 y803.length y803 from Kd.C_below (by repeat (first|(with_reducible exact HR806.out)|(with_reducible refine Kd.C_alloc ?_ _)|(with_reducible refine Kd.C_drewN ?_ _)|(with_reducible refine Kd.C_drew ?_)|exact HR806.out)) hb));have n3_:=Aside0.mk (below_step (by repeat (first|(with_reducible first|exact HB.out|apply below_alloc|apply pw_below_drewN|apply below_drew1)|exact HB.out)) hb);clear HO799;clear HO802;clear HR806;clear HB;have HO799:=n0_;have HO802:=n1_;have HR806:=n2_;have HB:=n3_;clear n0_ n1_ n2_ n3_;(try clear hb);(try clear hb2);(try clear hk);(try clear hi)))
   go_meet
   case rel => exact ⟨_,(true),(by first|rfl|(simp;done)|(simp [*];done)|(simp;rw [Bool.eq_iff_iff];simp;done)|(rw [Bool.eq_iff_iff];simp;done)),H',⟨by first|omega|exact Nat.le_refl _⟩,⟨by (with_reducible repeat (first|apply Kd.R_alloc|apply Kd.R_drewN|apply Kd.R_drew));exact Kd.R_mono HO799.out (fun _ hk => hk.2)⟩,⟨by (with_reducible repeat (first|apply Kd.R_alloc|apply Kd.R_drewN|apply Kd.R_drew));exact Kd.R_mono HO802.out (fun _ hk => hk.2)⟩,⟨by repeat (first|(with_reducible exact HR806.out)|(with_reducible refine Kd.C_alloc ?_ _)|(with_reducible refine Kd.C_drewN ?_ _)|(with_reducible refine Kd.C_drew ?_)|exact HR806.out)⟩,⟨by repeat (first|(with_reducible first|exact HB.out|apply below_alloc|apply pw_below_drewN|apply below_drew1)|exact HB.out)⟩⟩
  rw [if_pos c18] at H
  have c18b0 : (t807 == t808) = true:=beq_iff_eq.mpr c18
  have c18b1 : (t807 != t808) = false:=bne_eq_false_iff_eq.mpr c18
  clear c18
  (first|rw [c18b0]|(simp only [i64_w,i32_w];rw [c18b0])|skip)
  replace H:=Option.bind_eq_some_iff.mp H
  obtain ⟨t809,A190,H⟩:=H
  replace H : (bursarlaw03_QuantLists.j0 k l0 l1 t797 t800 (!t809)) = some r:=H
  have A19:=Aside0.mk A190
  clear A190
  have H':=Aside0.mk H
  clear H
  go_wp2_with (first|((with_reducible refine gate_callee (f:=45) rfl ?_);refine goesL_ (some 26) rfl rfl Tryz.func45 (by kernel_rfl) rfl #[.slice A0 l0.length c0] rfl (by (try simp only [List.map_toArray,List.map_cons,List.map_nil]);first|done|rfl|(simp only [List.length_drop,List.length_take];rfl)) ?_;(with_reducible refine (bursarref03_Valid.calls k _ _ l0 t808 _ ?side1 ?side2 A17.out).mono ?_);(case side1 => repeat (first|exact (Kd.C_below HR0.out HB.out)|(with_reducible refine Kd.C_alloc ?_ _)|(with_reducible refine Kd.C_drewN ?_ _)|(with_reducible refine Kd.C_drew ?_)));(case side2 => exact HC0.out);rintro e w20 ⟨rfl,hb⟩;refine ⟨_,rfl,?_⟩;have n0_:=Aside0.mk (Kd.R_below (by (with_reducible repeat (first|apply Kd.R_alloc|apply Kd.R_drewN|apply Kd.R_drew));exact HO799.out) hb);have n1_:=Aside0.mk (Kd.R_below (by (with_reducible repeat (first|apply Kd.R_alloc|apply Kd.R_drewN|apply Kd.R_drew));exact HO802.out) hb);have n2_:=Aside0.mk ((show Kd.C k57 _ Ao15 y803.length y803 from Kd.C_below (by repeat (first|(with_reducible exact HR806.out)|(with_reducible refine Kd.C_alloc ?_ _)|(with_reducible refine Kd.C_drewN ?_ _)|(with_reducible refine Kd.C_drew ?_)|exact HR806.out)) hb));have n3_:=Aside0.mk (below_step (by repeat (first|(with_reducible first|exact HB.out|apply below_alloc|apply pw_below_drewN|apply below_drew1)|exact HB.out)) hb);clear HO799;clear HO802;clear HR806;clear HB;have HO799:=n0_;have HO802:=n1_;have HR806:=n2_;have HB:=n3_;clear n0_ n1_ n2_ n3_;(try clear hb);(try clear hb2);(try clear hk);(try clear hi))|(go_at_call 32;(with_reducible refine (bursarlaw03_untouched.calls k _ _ t797 _ _ l0 t809 _ ?side1 ?side2 ?side3 ?side4 A19.out (GlobM.below hG (by repeat (first|(with_reducible first|exact HB.out|apply below_alloc|apply pw_below_drewN|apply below_drew1)|exact HB.out)))).mono ?_);(case side1 => repeat (first|exact (Kd.R_reads' HO799.out).2.2|(with_reducible refine Kd.C_alloc ?_ _)|(with_reducible refine Kd.C_drewN ?_ _)|(with_reducible refine Kd.C_drew ?_)));(case side2 => exact (Kd.R_reads' HO799.out).2.1);(case side3 => repeat (first|exact (Kd.C_below HR0.out HB.out)|(with_reducible refine Kd.C_alloc ?_ _)|(with_reducible refine Kd.C_drewN ?_ _)|(with_reducible refine Kd.C_drew ?_)));(case side4 => exact HC0.out);rintro e w21 ⟨rfl,hb⟩;have n0_:=Aside0.mk (Kd.R_below (by (with_reducible repeat (first|apply Kd.R_alloc|apply Kd.R_drewN|apply Kd.R_drew));exact HO799.out) hb);have n1_:=Aside0.mk (Kd.R_below (by (with_reducible repeat (first|apply Kd.R_alloc|apply Kd.R_drewN|apply Kd.R_drew));exact HO802.out) hb);have n2_:=Aside0.mk ((show Kd.C k57 _ Ao15 y803.length y803 from Kd.C_below (by repeat (first|(with_reducible exact HR806.out)|(with_reducible refine Kd.C_alloc ?_ _)|(with_reducible refine Kd.C_drewN ?_ _)|(with_reducible refine Kd.C_drew ?_)|exact HR806.out)) hb));have n3_:=Aside0.mk (below_step (by repeat (first|(with_reducible first|exact HB.out|apply below_alloc|apply pw_below_drewN|apply below_drew1)|exact HB.out)) hb);clear HO799;clear HO802;clear HR806;clear HB;have HO799:=n0_;have HO802:=n1_;have HR806:=n2_;have HB:=n3_;clear n0_ n1_ n2_ n3_;(try clear hb);(try clear hb2);(try clear hk);(try clear hi)))
  go_meet
  case rel => exact ⟨_,(!t809),(by first|rfl|(simp;done)|(simp [*];done)|(simp;rw [Bool.eq_iff_iff];simp;done)|(rw [Bool.eq_iff_iff];simp;done)),H',⟨by first|omega|exact Nat.le_refl _⟩,⟨by (with_reducible repeat (first|apply Kd.R_alloc|apply Kd.R_drewN|apply Kd.R_drew));exact Kd.R_mono HO799.out (fun _ hk => hk.2)⟩,⟨by (with_reducible repeat (first|apply Kd.R_alloc|apply Kd.R_drewN|apply Kd.R_drew));exact Kd.R_mono HO802.out (fun _ hk => hk.2)⟩,⟨by repeat (first|(with_reducible exact HR806.out)|(with_reducible refine Kd.C_alloc ?_ _)|(with_reducible refine Kd.C_drewN ?_ _)|(with_reducible refine Kd.C_drew ?_)|exact HR806.out)⟩,⟨by repeat (first|(with_reducible first|exact HB.out|apply below_alloc|apply pw_below_drewN|apply below_drew1)|exact HB.out)⟩⟩
 case rest => as_aux_lemma =>
  clear HC10;(try clear c1);(try clear q1);(try clear c2);(try clear p2);(try clear c4);(try clear c7);(try clear c7b0);(try clear c7b1);(try clear c8);(try clear c8b0);(try clear c8b1);(try clear q14);(try clear c15);(try clear c16);(try clear c18);(try clear c18b0);(try clear c18b1);(try clear q14)
  obtain ⟨kq,x33_9,rfl,HA,HJ9,HO_5,HO_6,HR806,HB⟩:=hcut
  cases kq with
 |zero => exact absurd HA.out (by simp [bursarlaw03_QuantLists.j0])
 |succ kj9 =>
   have H:=HA.out
   clear HA
   simp only [bursarlaw03_QuantLists.j0] at H
   by_cases c23 : x33_9 = true
   ·subst c23
    have H1 : (none) = some r:=by rw [if_pos rfl] at H;exact H
    clear H;have H:=H1;clear H1
    exact absurd H (by simp)
   replace c23:=Bool.eq_false_iff.mpr c23
   subst c23
   have H1 : (if 0 ≤ (l0.length : Int) then (if (l0.length : Int) ≤ (t797.length : Int) then ((quant_Normal.f kj9 (t797.take ((l0.length : Int) : Int).toNat)).bind fun bt814 => ((bursarref03_Normal.f kj9 l0).bind fun bt818 => (if bt814.2 = bt818.2 then ((bursarlaw03_same.f kj9 bt814.1 bt818.1).bind fun t822 => (if t822 = true then ((bursarlaw03_untouched.f kj9 t797 l0).bind fun t823 => (bursarlaw03_QuantLists.j1 kj9 l0 l1 t797 t800 (!t823))) else (bursarlaw03_QuantLists.j1 kj9 l0 l1 t797 t800 true))) else (bursarlaw03_QuantLists.j1 kj9 l0 l1 t797 t800 true)))) else (none)) else (none)) = some r:=by rw [if_neg (show ¬ (false = true) by decide)] at H;exact H
   clear H;have H:=H1;clear H1
   by_cases c24 : 0 ≤ (l0.length : Int)
   rotate_left
   ·rw [if_neg c24] at H
    exact absurd H (by simp)
   rw [if_pos c24] at H
   have c24b0:=eq_true c24
   have c24b1 : decide (0 ≤ (l0.length : Int)) = true:=decide_eq_true c24
   clear c24
   by_cases c25 : (l0.length : Int) ≤ (t797.length : Int)
   rotate_left
   ·rw [if_neg c25] at H
    exact absurd H (by simp)
   rw [if_pos c25] at H
   have c25b0:=eq_true c25
   have c25b1 : decide ((l0.length : Int) ≤ (t797.length : Int)) = true:=decide_eq_true c25
   clear c25
   obtain ⟨y810,hy810⟩ : ∃ y_ : List (S57),y_ = (t797.take ((l0.length : Int) : Int).toNat):=⟨_,rfl⟩
   replace H : ((quant_Normal.f kj9 y810).bind fun bt814 => ((bursarref03_Normal.f kj9 l0).bind fun bt818 => (if bt814.2 = bt818.2 then ((bursarlaw03_same.f kj9 bt814.1 bt818.1).bind fun t822 => (if t822 = true then ((bursarlaw03_untouched.f kj9 t797 l0).bind fun t823 => (bursarlaw03_QuantLists.j1 kj9 l0 l1 t797 t800 (!t823))) else (bursarlaw03_QuantLists.j1 kj9 l0 l1 t797 t800 true))) else (bursarlaw03_QuantLists.j1 kj9 l0 l1 t797 t800 true)))) = some r:=by first|(rw [hy810];with_reducible exact H)|(have H2_:=(Option.bind_some _ _).symm.trans H;rw [hy810];with_reducible exact H2_)|(have H2_:=(Option.bind_some _ _).symm.trans H;with_reducible exact H2_)|with_reducible exact H|(rw [hy810];exact H)|exact H
   have Ny810:=Aside0.mk hy810
   clear hy810
   replace H:=Option.bind_eq_some_iff.mp H
   obtain ⟨⟨t814,t815⟩,A260,H⟩:=H
   replace H : ((bursarref03_Normal.f kj9 l0).bind fun bt818 => (if t815 = bt818.2 then ((bursarlaw03_same.f kj9 t814 bt818.1).bind fun t822 => (if t822 = true then ((bursarlaw03_untouched.f kj9 t797 l0).bind fun t823 => (bursarlaw03_QuantLists.j1 kj9 l0 l1 t797 t800 (!t823))) else (bursarlaw03_QuantLists.j1 kj9 l0 l1 t797 t800 true))) else (bursarlaw03_QuantLists.j1 kj9 l0 l1 t797 t800 true))) = some r:=H
   have A26:=Aside0.mk A260
   clear A260
   replace H:=Option.bind_eq_some_iff.mp H
   obtain ⟨⟨t818,t819⟩,A270,H⟩:=H
   replace H : (if t815 = t819 then ((bursarlaw03_same.f kj9 t814 t818).bind fun t822 => (if t822 = true then ((bursarlaw03_untouched.f kj9 t797 l0).bind fun t823 => (bursarlaw03_QuantLists.j1 kj9 l0 l1 t797 t800 (!t823))) else (bursarlaw03_QuantLists.j1 kj9 l0 l1 t797 t800 true))) else (bursarlaw03_QuantLists.j1 kj9 l0 l1 t797 t800 true)) = some r:=H
   have A27:=Aside0.mk A270
   clear A270
   have HC28:=Aside0.mk H
   clear H
   have q29 : ((l0.length : Int) : Int) ≤ ((t797.length : Int) : Int):=of_decide_eq_true (by first|(with_reducible assumption)|assumption)
   obtain ⟨i029,hi029,_,hsz29,_⟩:=info_parts info57
   have hroom29 : t797.length ≤ co15:=(Kd.R_reads' HO_5.out).2.1
   have hC29 : Kd.C k57 _ Ao15 t797.length t797:=(Kd.R_reads' HO_5.out).2.2
   (try clear hcut14);have hcut29:=cut_to (P:=Tryz.prog) 46 57 .i64 Tryz.underlying46 hi029 Ao15 t797.length co15 (l0.length : Int) (of_decide_eq_true (by first|(with_reducible assumption)|assumption)) q29 hroom29
   have hr29:=Kd.C_take (m:=((l0.length : Int) : Int).toNat) hC29 (by omega)
   have hy29 : y810.length = ((l0.length : Int) : Int).toNat:=(by rw [Ny810.out,List.length_take];omega)
   rw [← Ny810.out] at hr29
   rw [← hy29] at hcut29
   have HR813:=Aside0.mk hr29
   have HC813:=Aside0.mk (show y810.length ≤ co15 from by omega)
   clear hr29 hC29 hroom29 hi029 hsz29
   have KY29:=Aside0.mk hy29
   clear hy29
   have KL29:=Aside0.mk (show ((l0.length : Int) : Int).toNat ≤ t797.length from by omega)
   replace q29:=eq_true q29
   go_upto_region 10 with (first|((with_reducible refine gate_callee (f:=36) rfl ?_);refine goesL_ (some 39) rfl rfl Tryz.func36 (by kernel_rfl) rfl #[.slice Ao15 y810.length co15] rfl (by (try simp only [List.map_toArray,List.map_cons,List.map_nil]);first|done|rfl|(simp only [List.length_drop,List.length_take];rfl)) ?_;(with_reducible refine (quant_Normal.calls kj9 _ _ y810 t814 t815 _ ?side1 ?side2 A26.out (Glob.below hG.toGlob (by repeat (first|(with_reducible first|exact HB.out|apply below_alloc|apply pw_below_drewN|apply below_drew1)|exact HB.out)))).mono ?_);(case side1 => repeat (first|exact (by repeat (first|(with_reducible exact HR813.out)|(with_reducible refine Kd.C_alloc ?_ _)|(with_reducible refine Kd.C_drewN ?_ _)|(with_reducible refine Kd.C_drew ?_)|exact HR813.out))|(with_reducible refine Kd.C_alloc ?_ _)|(with_reducible refine Kd.C_drewN ?_ _)|(with_reducible refine Kd.C_drew ?_)));(case side2 => exact HC813.out);rintro e w30 ⟨v816,rfl,ho0,hb⟩;refine ⟨_,rfl,?_⟩;have n0_:=Aside0.mk (Kd.R_elder' (by (with_reducible repeat (first|apply Kd.R_alloc|apply Kd.R_drewN|apply Kd.R_drew));exact HO_5.out) (Kd.R_base ho0) hb);have n1_:=Aside0.mk (Kd.R_elder' (by (with_reducible repeat (first|apply Kd.R_alloc|apply Kd.R_drewN|apply Kd.R_drew));exact HO_6.out) (Kd.R_base ho0) hb);have n2_:=Aside0.mk (Kd.R_lower (Kd.R_new' (Kd.R_new' ho0 (Kd.R_lt (by (with_reducible repeat (first|apply Kd.R_alloc|apply Kd.R_drewN|apply Kd.R_drew));exact HO_5.out))) (Kd.R_lt (by (with_reducible repeat (first|apply Kd.R_alloc|apply Kd.R_drewN|apply Kd.R_drew));exact HO_6.out))) (below_size (by repeat (first|(with_reducible first|exact HB.out|apply below_alloc|apply pw_below_drewN|apply below_drew1)|exact HB.out))));have n3_:=Aside0.mk ((show Kd.C k57 _ Ao15 y803.length y803 from Kd.C_below (by repeat (first|(with_reducible exact HR806.out)|(with_reducible refine Kd.C_alloc ?_ _)|(with_reducible refine Kd.C_drewN ?_ _)|(with_reducible refine Kd.C_drew ?_)|exact HR806.out)) hb));have n4_:=Aside0.mk ((show Kd.C k57 _ Ao15 y810.length y810 from Kd.C_below (by repeat (first|(with_reducible exact HR813.out)|(with_reducible refine Kd.C_alloc ?_ _)|(with_reducible refine Kd.C_drewN ?_ _)|(with_reducible refine Kd.C_drew ?_)|exact HR813.out)) hb));have n5_:=Aside0.mk (below_step (by repeat (first|(with_reducible first|exact HB.out|apply below_alloc|apply pw_below_drewN|apply below_drew1)|exact HB.out)) hb);clear HO_5;clear HO_6;clear HR806;clear HR813;clear HB;have HO_5:=n0_;have HO_6:=n1_;have HO817:=n2_;have HR806:=n3_;have HR813:=n4_;have HB:=n5_;clear n0_ n1_ n2_ n3_ n4_ n5_;(try clear hb);(try clear hb2);(try clear hk);(try clear hi);(try clear ho0))|((with_reducible refine gate_callee (f:=46) rfl ?_);refine goesL_ (some 44) rfl rfl Tryz.func46 (by kernel_rfl) rfl #[.slice A0 l0.length c0] rfl (by (try simp only [List.map_toArray,List.map_cons,List.map_nil]);first|done|rfl|(simp only [List.length_drop,List.length_take];rfl)) ?_;(with_reducible refine (bursarref03_Normal.calls kj9 _ _ l0 t818 t819 _ ?side1 ?side2 A27.out).mono ?_);(case side1 => repeat (first|exact (Kd.C_below HR0.out HB.out)|(with_reducible refine Kd.C_alloc ?_ _)|(with_reducible refine Kd.C_drewN ?_ _)|(with_reducible refine Kd.C_drew ?_)));(case side2 => exact HC0.out);rintro e w31 ⟨v820,rfl,ho0,hb⟩;refine ⟨_,rfl,?_⟩;have n0_:=Aside0.mk (Kd.R_elder' (by (with_reducible repeat (first|apply Kd.R_alloc|apply Kd.R_drewN|apply Kd.R_drew));exact HO_5.out) (Kd.R_base ho0) hb);have n1_:=Aside0.mk (Kd.R_elder' (by (with_reducible repeat (first|apply Kd.R_alloc|apply Kd.R_drewN|apply Kd.R_drew));exact HO_6.out) (Kd.R_base ho0) hb);have n2_:=Aside0.mk (Kd.R_elder' (by (with_reducible repeat (first|apply Kd.R_alloc|apply Kd.R_drewN|apply Kd.R_drew));exact HO817.out) (Kd.R_base ho0) hb);have n3_:=Aside0.mk (Kd.R_lower (Kd.R_new' (Kd.R_new' (Kd.R_new' ho0 (Kd.R_lt (by (with_reducible repeat (first|apply Kd.R_alloc|apply Kd.R_drewN|apply Kd.R_drew));exact HO_5.out))) (Kd.R_lt (by (with_reducible repeat (first|apply Kd.R_alloc|apply Kd.R_drewN|apply Kd.R_drew));exact HO_6.out))) (Kd.R_lt (by (with_reducible repeat (first|apply Kd.R_alloc|apply Kd.R_drewN|apply Kd.R_drew));exact HO817.out))) (below_size (by repeat (first|(with_reducible first|exact HB.out|apply below_alloc|apply pw_below_drewN|apply below_drew1)|exact HB.out))));have n4_:=Aside0.mk ((show Kd.C k57 _ Ao15 y803.length y803 from Kd.C_below (by repeat (first|(with_reducible exact HR806.out)|(with_reducible refine Kd.C_alloc ?_ _)|(with_reducible refine Kd.C_drewN ?_ _)|(with_reducible refine Kd.C_drew ?_)|exact HR806.out)) hb));have n5_:=Aside0.mk ((show Kd.C k57 _ Ao15 y810.length y810 from Kd.C_below (by repeat (first|(with_reducible exact HR813.out)|(with_reducible refine Kd.C_alloc ?_ _)|(with_reducible refine Kd.C_drewN ?_ _)|(with_reducible refine Kd.C_drew ?_)|exact HR813.out)) hb));have n6_:=Aside0.mk (below_step (by repeat (first|(with_reducible first|exact HB.out|apply below_alloc|apply pw_below_drewN|apply below_drew1)|exact HB.out)) hb);clear HO_5;clear HO_6;clear HO817;clear HR806;clear HR813;clear HB;have HO_5:=n0_;have HO_6:=n1_;have HO817:=n2_;have HO821:=n3_;have HR806:=n4_;have HR813:=n5_;have HB:=n6_;clear n0_ n1_ n2_ n3_ n4_ n5_ n6_;(try clear hb);(try clear hb2);(try clear hk);(try clear hi);(try clear ho0)))
   (try simp only [Act.put,List.setIfInBounds_toArray,List.set_cons_zero,List.set_cons_succ])
   go_cut [61] (fun v61 wc => ∃ (kq : Nat) (x61_27 : Bool),v61 = .bool x61_27 ∧ Aside0 (bursarlaw03_QuantLists.j1 kq l0 l1 t797 t800 x61_27 = some r) ∧ Aside0 (kq ≤ kj9) ∧ Aside0 (Kd.R k57 57 wc w.heap.size (fun k_ => some k_ ≠ (v801 : Value).ownBlock) (.slice Ao15 t797.length co15) t797) ∧ Aside0 (Kd.R k57 57 wc w.heap.size (fun k_ => some k_ ≠ ((.slice Ao15 t797.length co15) : Value).ownBlock) v801 t800) ∧ Aside0 (Kd.C k57 wc Ao15 y803.length y803) ∧ Aside0 (Kd.C k57 wc Ao15 y810.length y810) ∧ Aside0 (Below w.heap.size w wc))
   case first => as_aux_lemma =>
    have H:=HC28.out
    clear HC28
    by_cases c32 : t815 = t819
    rotate_left
    ·rw [if_neg c32] at H
     have c32b0 : (t815 == t819) = false:=beq_eq_false_iff_ne.mpr c32
     have c32b1 : (t815 != t819) = true:=bne_iff_ne.mpr c32
     (first|rw [c32b0]|(simp only [i64_w,i32_w];rw [c32b0])|skip)
     have H':=Aside0.mk H
     clear H
     go_wp2
     go_meet
     case rel => exact ⟨_,(true),(by first|rfl|(simp;done)|(simp [*];done)|(simp;rw [Bool.eq_iff_iff];simp;done)|(rw [Bool.eq_iff_iff];simp;done)),H',⟨by have:=HJ9.out;first|omega|exact Nat.le_refl _⟩,⟨by (with_reducible repeat (first|apply Kd.R_alloc|apply Kd.R_drewN|apply Kd.R_drew));exact Kd.R_mono HO_5.out (fun _ hk => hk.1.1)⟩,⟨by (with_reducible repeat (first|apply Kd.R_alloc|apply Kd.R_drewN|apply Kd.R_drew));exact Kd.R_mono HO_6.out (fun _ hk => hk.1.1)⟩,⟨by repeat (first|(with_reducible exact HR806.out)|(with_reducible refine Kd.C_alloc ?_ _)|(with_reducible refine Kd.C_drewN ?_ _)|(with_reducible refine Kd.C_drew ?_)|exact HR806.out)⟩,⟨by repeat (first|(with_reducible exact HR813.out)|(with_reducible refine Kd.C_alloc ?_ _)|(with_reducible refine Kd.C_drewN ?_ _)|(with_reducible refine Kd.C_drew ?_)|exact HR813.out)⟩,⟨by repeat (first|(with_reducible first|exact HB.out|apply below_alloc|apply pw_below_drewN|apply below_drew1)|exact HB.out)⟩⟩
    rw [if_pos c32] at H
    have c32b0 : (t815 == t819) = true:=beq_iff_eq.mpr c32
    have c32b1 : (t815 != t819) = false:=bne_eq_false_iff_eq.mpr c32
    clear c32
    (first|rw [c32b0]|(simp only [i64_w,i32_w];rw [c32b0])|skip)
    replace H:=Option.bind_eq_some_iff.mp H
    obtain ⟨t822,A330,H⟩:=H
    replace H : (if t822 = true then ((bursarlaw03_untouched.f kj9 t797 l0).bind fun t823 => (bursarlaw03_QuantLists.j1 kj9 l0 l1 t797 t800 (!t823))) else (bursarlaw03_QuantLists.j1 kj9 l0 l1 t797 t800 true)) = some r:=H
    have A33:=Aside0.mk A330
    clear A330
    by_cases c34 : t822 = true
    rotate_left
    ·replace c34:=Bool.eq_false_iff.mpr c34
     subst c34
     have H1 : (bursarlaw03_QuantLists.j1 kj9 l0 l1 t797 t800 true) = some r:=by rw [if_neg (show ¬ (false = true) by decide)] at H;exact H
     clear H;have H:=H1;clear H1
     have H':=Aside0.mk H
     clear H
     obtain ⟨Ao39,co39,eo39⟩:=Kd.R_slice HO817.out
     subst eo39
     obtain ⟨Ao40,co40,eo40⟩:=Kd.R_slice HO821.out
     subst eo40
     go_wp2_with (first|(go_at_call 39;(with_reducible refine (bursarlaw03_same.calls kj9 _ _ t814 _ _ t818 false _ ?side1 ?side2 ?side3 ?side4 A33.out).mono ?_);(case side1 => repeat (first|exact (Kd.R_reads' HO817.out).2.2|(with_reducible refine Kd.C_alloc ?_ _)|(with_reducible refine Kd.C_drewN ?_ _)|(with_reducible refine Kd.C_drew ?_)));(case side2 => exact (Kd.R_reads' HO817.out).2.1);(case side3 => repeat (first|exact (Kd.R_reads' HO821.out).2.2|(with_reducible refine Kd.C_alloc ?_ _)|(with_reducible refine Kd.C_drewN ?_ _)|(with_reducible refine Kd.C_drew ?_)));(case side4 => exact (Kd.R_reads' HO821.out).2.1);rintro e w' ⟨rfl,⟨nd,rfl⟩⟩))
     go_meet
     case rel => exact ⟨_,(true),(by first|rfl|(simp;done)|(simp [*];done)|(simp;rw [Bool.eq_iff_iff];simp;done)|(rw [Bool.eq_iff_iff];simp;done)),H',⟨by have:=HJ9.out;first|omega|exact Nat.le_refl _⟩,⟨by (with_reducible repeat (first|apply Kd.R_alloc|apply Kd.R_drewN|apply Kd.R_drew));exact Kd.R_mono HO_5.out (fun _ hk => hk.1.1)⟩,⟨by (with_reducible repeat (first|apply Kd.R_alloc|apply Kd.R_drewN|apply Kd.R_drew));exact Kd.R_mono HO_6.out (fun _ hk => hk.1.1)⟩,⟨by repeat (first|(with_reducible exact HR806.out)|(with_reducible refine Kd.C_alloc ?_ _)|(with_reducible refine Kd.C_drewN ?_ _)|(with_reducible refine Kd.C_drew ?_)|exact HR806.out)⟩,⟨by repeat (first|(with_reducible exact HR813.out)|(with_reducible refine Kd.C_alloc ?_ _)|(with_reducible refine Kd.C_drewN ?_ _)|(with_reducible refine Kd.C_drew ?_)|exact HR813.out)⟩,⟨by repeat (first|(with_reducible first|exact HB.out|apply below_alloc|apply pw_below_drewN|apply below_drew1)|exact HB.out)⟩⟩
    subst c34
    have H1 : ((bursarlaw03_untouched.f kj9 t797 l0).bind fun t823 => (bursarlaw03_QuantLists.j1 kj9 l0 l1 t797 t800 (!t823))) = some r:=by rw [if_pos rfl] at H;exact H
    clear H;have H:=H1;clear H1
    replace H:=Option.bind_eq_some_iff.mp H
    obtain ⟨t823,A350,H⟩:=H
    replace H : (bursarlaw03_QuantLists.j1 kj9 l0 l1 t797 t800 (!t823)) = some r:=H
    have A35:=Aside0.mk A350
    clear A350
    have H':=Aside0.mk H
    clear H
    obtain ⟨Ao36,co36,eo36⟩:=Kd.R_slice HO817.out
    subst eo36
    obtain ⟨Ao37,co37,eo37⟩:=Kd.R_slice HO821.out
    subst eo37
    go_wp2_with (first|(go_at_call 39;(with_reducible refine (bursarlaw03_same.calls kj9 _ _ t814 _ _ t818 true _ ?side1 ?side2 ?side3 ?side4 A33.out).mono ?_);(case side1 => repeat (first|exact (Kd.R_reads' HO817.out).2.2|(with_reducible refine Kd.C_alloc ?_ _)|(with_reducible refine Kd.C_drewN ?_ _)|(with_reducible refine Kd.C_drew ?_)));(case side2 => exact (Kd.R_reads' HO817.out).2.1);(case side3 => repeat (first|exact (Kd.R_reads' HO821.out).2.2|(with_reducible refine Kd.C_alloc ?_ _)|(with_reducible refine Kd.C_drewN ?_ _)|(with_reducible refine Kd.C_drew ?_)));(case side4 => exact (Kd.R_reads' HO821.out).2.1);rintro e w' ⟨rfl,⟨nd,rfl⟩⟩)|(go_at_call 32;(with_reducible refine (bursarlaw03_untouched.calls kj9 _ _ t797 _ _ l0 t823 _ ?side1 ?side2 ?side3 ?side4 A35.out (GlobM.below hG (by repeat (first|(with_reducible first|exact HB.out|apply below_alloc|apply pw_below_drewN|apply below_drew1)|exact HB.out)))).mono ?_);(case side1 => repeat (first|exact (Kd.R_reads' HO_5.out).2.2|(with_reducible refine Kd.C_alloc ?_ _)|(with_reducible refine Kd.C_drewN ?_ _)|(with_reducible refine Kd.C_drew ?_)));(case side2 => exact (Kd.R_reads' HO_5.out).2.1);(case side3 => repeat (first|exact (Kd.C_below HR0.out (by repeat (first|(with_reducible first|exact HB.out|apply below_alloc|apply pw_below_drewN|apply below_drew1)|exact HB.out)))|(with_reducible refine Kd.C_alloc ?_ _)|(with_reducible refine Kd.C_drewN ?_ _)|(with_reducible refine Kd.C_drew ?_)));(case side4 => exact HC0.out);rintro e w38 ⟨rfl,hb⟩;have n0_:=Aside0.mk (Kd.R_below (by (with_reducible repeat (first|apply Kd.R_alloc|apply Kd.R_drewN|apply Kd.R_drew));exact HO_5.out) hb);have n1_:=Aside0.mk (Kd.R_below (by (with_reducible repeat (first|apply Kd.R_alloc|apply Kd.R_drewN|apply Kd.R_drew));exact HO_6.out) hb);have n2_:=Aside0.mk (Kd.R_below (by (with_reducible repeat (first|apply Kd.R_alloc|apply Kd.R_drewN|apply Kd.R_drew));exact HO817.out) hb);have n3_:=Aside0.mk (Kd.R_below (by (with_reducible repeat (first|apply Kd.R_alloc|apply Kd.R_drewN|apply Kd.R_drew));exact HO821.out) hb);have n4_:=Aside0.mk ((show Kd.C k57 _ Ao15 y803.length y803 from Kd.C_below (by repeat (first|(with_reducible exact HR806.out)|(with_reducible refine Kd.C_alloc ?_ _)|(with_reducible refine Kd.C_drewN ?_ _)|(with_reducible refine Kd.C_drew ?_)|exact HR806.out)) hb));have n5_:=Aside0.mk ((show Kd.C k57 _ Ao15 y810.length y810 from Kd.C_below (by repeat (first|(with_reducible exact HR813.out)|(with_reducible refine Kd.C_alloc ?_ _)|(with_reducible refine Kd.C_drewN ?_ _)|(with_reducible refine Kd.C_drew ?_)|exact HR813.out)) hb));have n6_:=Aside0.mk (below_step (by repeat (first|(with_reducible first|exact HB.out|apply below_alloc|apply pw_below_drewN|apply below_drew1)|exact HB.out)) hb);clear HO_5;clear HO_6;clear HO817;clear HO821;clear HR806;clear HR813;clear HB;have HO_5:=n0_;have HO_6:=n1_;have HO817:=n2_;have HO821:=n3_;have HR806:=n4_;have HR813:=n5_;have HB:=n6_;clear n0_ n1_ n2_ n3_ n4_ n5_ n6_;(try clear hb);(try clear hb2);(try clear hk);(try clear hi)))
    go_meet
    case rel => exact ⟨_,(!t823),(by first|rfl|(simp;done)|(simp [*];done)|(simp;rw [Bool.eq_iff_iff];simp;done)|(rw [Bool.eq_iff_iff];simp;done)),H',⟨by have:=HJ9.out;first|omega|exact Nat.le_refl _⟩,⟨by (with_reducible repeat (first|apply Kd.R_alloc|apply Kd.R_drewN|apply Kd.R_drew));exact Kd.R_mono HO_5.out (fun _ hk => hk.1.1)⟩,⟨by (with_reducible repeat (first|apply Kd.R_alloc|apply Kd.R_drewN|apply Kd.R_drew));exact Kd.R_mono HO_6.out (fun _ hk => hk.1.1)⟩,⟨by repeat (first|(with_reducible exact HR806.out)|(with_reducible refine Kd.C_alloc ?_ _)|(with_reducible refine Kd.C_drewN ?_ _)|(with_reducible refine Kd.C_drew ?_)|exact HR806.out)⟩,⟨by repeat (first|(with_reducible exact HR813.out)|(with_reducible refine Kd.C_alloc ?_ _)|(with_reducible refine Kd.C_drewN ?_ _)|(with_reducible refine Kd.C_drew ?_)|exact HR813.out)⟩,⟨by repeat (first|(with_reducible first|exact HB.out|apply below_alloc|apply pw_below_drewN|apply below_drew1)|exact HB.out)⟩⟩
   case rest => as_aux_lemma =>
    clear HC28;(try clear c1);(try clear q1);(try clear c2);(try clear p2);(try clear q2);(try clear c3);(try clear c4);(try clear c7);(try clear c7b0);(try clear c7b1);(try clear c8);(try clear c8b0);(try clear c8b1);(try clear q14);(try clear c15);(try clear c16);(try clear c18);(try clear c18b0);(try clear c18b1);(try clear c23);(try clear c24);(try clear c24b0);(try clear c24b1);(try clear c25);(try clear c25b0);(try clear c25b1);(try clear c29);(try clear q29);(try clear c32);(try clear c32b0);(try clear c32b1);(try clear c34);(try clear c36);(try clear c40);(try clear p2);(try clear q1);(try clear q14);(try clear q29)
    obtain ⟨kq,x61_27,rfl,HA,HJ27,HO_5,HO_6,HR806,HR813,HB⟩:=hcut
    cases kq with
   |zero => exact absurd HA.out (by simp [bursarlaw03_QuantLists.j1])
   |succ kj27 =>
     have H:=HA.out
     clear HA
     simp only [bursarlaw03_QuantLists.j1] at H
     by_cases c41 : x61_27 = true
     ·subst c41
      have H1 : (none) = some r:=by rw [if_pos rfl] at H;exact H
      clear H;have H:=H1;clear H1
      exact absurd H (by simp)
     replace c41:=Bool.eq_false_iff.mpr c41
     subst c41
     have H1 : (if 0 ≤ (l0.length : Int) then (if (l0.length : Int) ≤ (t797.length : Int) then (if 0 ≤ (l1.length : Int) then (if (l1.length : Int) ≤ (t800.length : Int) then ((quant_Plus.f kj27 (t797.take ((l0.length : Int) : Int).toNat) (t800.take ((l1.length : Int) : Int).toNat)).bind fun bt832 => ((bursarref03_Plus.f kj27 l0 l1).bind fun bt836 => (if bt832.2 = bt836.2 then ((bursarlaw03_same.f kj27 bt832.1 bt836.1).bind fun t840 => (if t840 = true then ((bursarlaw03_untouched.f kj27 t797 l0).bind fun t841 => (if t841 = true then ((bursarlaw03_untouched.f kj27 t800 l1).bind fun t842 => (bursarlaw03_QuantLists.j2 kj27 l0 l1 t797 t800 (!t842))) else (bursarlaw03_QuantLists.j2 kj27 l0 l1 t797 t800 true))) else (bursarlaw03_QuantLists.j2 kj27 l0 l1 t797 t800 true))) else (bursarlaw03_QuantLists.j2 kj27 l0 l1 t797 t800 true)))) else (none)) else (none)) else (none)) else (none)) = some r:=by rw [if_neg (show ¬ (false = true) by decide)] at H;exact H
     clear H;have H:=H1;clear H1
     by_cases c42 : 0 ≤ (l0.length : Int)
     rotate_left
     ·rw [if_neg c42] at H
      exact absurd H (by simp)
     rw [if_pos c42] at H
     have c42b0:=eq_true c42
     have c42b1 : decide (0 ≤ (l0.length : Int)) = true:=decide_eq_true c42
     clear c42
     by_cases c43 : (l0.length : Int) ≤ (t797.length : Int)
     rotate_left
     ·rw [if_neg c43] at H
      exact absurd H (by simp)
     rw [if_pos c43] at H
     have c43b0:=eq_true c43
     have c43b1 : decide ((l0.length : Int) ≤ (t797.length : Int)) = true:=decide_eq_true c43
     clear c43
     obtain ⟨y824,hy824⟩ : ∃ y_ : List (S57),y_ = (t797.take ((l0.length : Int) : Int).toNat):=⟨_,rfl⟩
     replace H : (if 0 ≤ (l1.length : Int) then (if (l1.length : Int) ≤ (t800.length : Int) then ((quant_Plus.f kj27 y824 (t800.take ((l1.length : Int) : Int).toNat)).bind fun bt832 => ((bursarref03_Plus.f kj27 l0 l1).bind fun bt836 => (if bt832.2 = bt836.2 then ((bursarlaw03_same.f kj27 bt832.1 bt836.1).bind fun t840 => (if t840 = true then ((bursarlaw03_untouched.f kj27 t797 l0).bind fun t841 => (if t841 = true then ((bursarlaw03_untouched.f kj27 t800 l1).bind fun t842 => (bursarlaw03_QuantLists.j2 kj27 l0 l1 t797 t800 (!t842))) else (bursarlaw03_QuantLists.j2 kj27 l0 l1 t797 t800 true))) else (bursarlaw03_QuantLists.j2 kj27 l0 l1 t797 t800 true))) else (bursarlaw03_QuantLists.j2 kj27 l0 l1 t797 t800 true)))) else (none)) else (none)) = some r:=by first|(rw [hy824];with_reducible exact H)|(have H2_:=(Option.bind_some _ _).symm.trans H;rw [hy824];with_reducible exact H2_)|(have H2_:=(Option.bind_some _ _).symm.trans H;with_reducible exact H2_)|with_reducible exact H|(rw [hy824];exact H)|exact H
     have Ny824:=Aside0.mk hy824
     clear hy824
     by_cases c44 : 0 ≤ (l1.length : Int)
     rotate_left
     ·rw [if_neg c44] at H
      exact absurd H (by simp)
     rw [if_pos c44] at H
     have c44b0:=eq_true c44
     have c44b1 : decide (0 ≤ (l1.length : Int)) = true:=decide_eq_true c44
     clear c44
     by_cases c45 : (l1.length : Int) ≤ (t800.length : Int)
     rotate_left
     ·rw [if_neg c45] at H
      exact absurd H (by simp)
     rw [if_pos c45] at H
     have c45b0:=eq_true c45
     have c45b1 : decide ((l1.length : Int) ≤ (t800.length : Int)) = true:=decide_eq_true c45
     clear c45
     obtain ⟨y828,hy828⟩ : ∃ y_ : List (S57),y_ = (t800.take ((l1.length : Int) : Int).toNat):=⟨_,rfl⟩
     replace H : ((quant_Plus.f kj27 y824 y828).bind fun bt832 => ((bursarref03_Plus.f kj27 l0 l1).bind fun bt836 => (if bt832.2 = bt836.2 then ((bursarlaw03_same.f kj27 bt832.1 bt836.1).bind fun t840 => (if t840 = true then ((bursarlaw03_untouched.f kj27 t797 l0).bind fun t841 => (if t841 = true then ((bursarlaw03_untouched.f kj27 t800 l1).bind fun t842 => (bursarlaw03_QuantLists.j2 kj27 l0 l1 t797 t800 (!t842))) else (bursarlaw03_QuantLists.j2 kj27 l0 l1 t797 t800 true))) else (bursarlaw03_QuantLists.j2 kj27 l0 l1 t797 t800 true))) else (bursarlaw03_QuantLists.j2 kj27 l0 l1 t797 t800 true)))) = some r:=by first|(rw [hy828];with_reducible exact H)|(have H2_:=(Option.bind_some _ _).symm.trans H;rw [hy828];with_reducible exact H2_)|(have H2_:=(Option.bind_some _ _).symm.trans H;with_reducible exact H2_)|with_reducible exact H|(rw [hy828];exact H)|exact H
     have Ny828:=Aside0.mk hy828
     clear hy828
     replace H:=Option.bind_eq_some_iff.mp H
     obtain ⟨⟨t832,t833⟩,A460,H⟩:=H
     replace H : ((bursarref03_Plus.f kj27 l0 l1).bind fun bt836 => (if t833 = bt836.2 then ((bursarlaw03_same.f kj27 t832 bt836.1).bind fun t840 => (if t840 = true then ((bursarlaw03_untouched.f kj27 t797 l0).bind fun t841 => (if t841 = true then ((bursarlaw03_untouched.f kj27 t800 l1).bind fun t842 => (bursarlaw03_QuantLists.j2 kj27 l0 l1 t797 t800 (!t842))) else (bursarlaw03_QuantLists.j2 kj27 l0 l1 t797 t800 true))) else (bursarlaw03_QuantLists.j2 kj27 l0 l1 t797 t800 true))) else (bursarlaw03_QuantLists.j2 kj27 l0 l1 t797 t800 true))) = some r:=H
     have A46:=Aside0.mk A460
     clear A460
     replace H:=Option.bind_eq_some_iff.mp H
     obtain ⟨⟨t836,t837⟩,A470,H⟩:=H
     replace H : (if t833 = t837 then ((bursarlaw03_same.f kj27 t832 t836).bind fun t840 => (if t840 = true then ((bursarlaw03_untouched.f kj27 t797 l0).bind fun t841 => (if t841 = true then ((bursarlaw03_untouched.f kj27 t800 l1).bind fun t842 => (bursarlaw03_QuantLists.j2 kj27 l0 l1 t797 t800 (!t842))) else (bursarlaw03_QuantLists.j2 kj27 l0 l1 t797 t800 true))) else (bursarlaw03_QuantLists.j2 kj27 l0 l1 t797 t800 true))) else (bursarlaw03_QuantLists.j2 kj27 l0 l1 t797 t800 true)) = some r:=H
     have A47:=Aside0.mk A470
     clear A470
     have HC48:=Aside0.mk H
     clear H
     try go_wp2
     have n0_:=Aside0.mk (Kd.R_drew HO_5.out)
     have n1_:=Aside0.mk (Kd.R_drew HO_6.out)
     have n2_:=Aside0.mk (Kd.C_drew HR806.out)
     have n3_:=Aside0.mk (Kd.C_drew HR813.out)
     have n4_:=Aside0.mk (below_drew1 HB.out)
     clear HO_5;clear HO_6;clear HR806;clear HR813;clear HB;have HO_5:=n0_;have HO_6:=n1_;have HR806:=n2_;have HR813:=n3_;have HB:=n4_;clear n0_ n1_ n2_ n3_ n4_
     have q50 : ((l0.length : Int) : Int) ≤ ((t797.length : Int) : Int):=of_decide_eq_true (by first|(with_reducible assumption)|assumption)
     obtain ⟨i050,hi050,_,hsz50,_⟩:=info_parts info57
     have hroom50 : t797.length ≤ co15:=(Kd.R_reads' HO_5.out).2.1
     have hC50 : Kd.C k57 _ Ao15 t797.length t797:=(Kd.R_reads' HO_5.out).2.2
     (try clear hcut14);(try clear hcut29);have hcut50:=cut_to (P:=Tryz.prog) 46 57 .i64 Tryz.underlying46 hi050 Ao15 t797.length co15 (l0.length : Int) (of_decide_eq_true (by first|(with_reducible assumption)|assumption)) q50 hroom50
     have hr50:=Kd.C_take (m:=((l0.length : Int) : Int).toNat) hC50 (by omega)
     have hy50 : y824.length = ((l0.length : Int) : Int).toNat:=(by rw [Ny824.out,List.length_take];omega)
     rw [← Ny824.out] at hr50
     rw [← hy50] at hcut50
     have HR827:=Aside0.mk hr50
     have HC827:=Aside0.mk (show y824.length ≤ co15 from by omega)
     clear hr50 hC50 hroom50 hi050 hsz50
     have KY50:=Aside0.mk hy50
     clear hy50
     have KL50:=Aside0.mk (show ((l0.length : Int) : Int).toNat ≤ t797.length from by omega)
     replace q50:=eq_true q50
     obtain ⟨Ao52,co52,eo52⟩:=Kd.R_slice HO_6.out
     (first|subst eo52|(injection eo52 with f1_ f2_ f3_;have f4_:=f1_.symm;have f5_:=f3_.symm;clear f1_ f2_ f3_;subst f4_;subst f5_))
     have q51 : ((l1.length : Int) : Int) ≤ ((t800.length : Int) : Int):=of_decide_eq_true (by first|(with_reducible assumption)|assumption)
     obtain ⟨i051,hi051,_,hsz51,_⟩:=info_parts info57
     have hroom51 : t800.length ≤ co52:=(Kd.R_reads' HO_6.out).2.1
     have hC51 : Kd.C k57 _ Ao52 t800.length t800:=(Kd.R_reads' HO_6.out).2.2
     have hcut51:=cut_to (P:=Tryz.prog) 46 57 .i64 Tryz.underlying46 hi051 Ao52 t800.length co52 (l1.length : Int) (of_decide_eq_true (by first|(with_reducible assumption)|assumption)) q51 hroom51
     have hr51:=Kd.C_take (m:=((l1.length : Int) : Int).toNat) hC51 (by omega)
     have hy51 : y828.length = ((l1.length : Int) : Int).toNat:=(by rw [Ny828.out,List.length_take];omega)
     rw [← Ny828.out] at hr51
     rw [← hy51] at hcut51
     have HR831:=Aside0.mk hr51
     have HC831:=Aside0.mk (show y828.length ≤ co52 from by omega)
     clear hr51 hC51 hroom51 hi051 hsz51
     have KY51:=Aside0.mk hy51
     clear hy51
     have KL51:=Aside0.mk (show ((l1.length : Int) : Int).toNat ≤ t800.length from by omega)
     replace q51:=eq_true q51
     refine start_ (n:=14) (S:=fun w' => True) (ds:=[]) (bl 0 14) (by kernel_rfl) rfl rfl trivial (fun hHeld => ?_);refine with_tabW bursarlaw03_QuantLists.tab12 bursarlaw03_QuantLists.bits12 (fun HT_ HW_ => ?_)
     generalize wc.drew = w49 at HO_5 HO_6 HR806 HR813 HB HR827 HR831 hHeld ⊢
     refine pure_ (i:=0) (N:=some 63) (v:=?_) (a':=?_) (bl 1 13) rfl rfl (any_of HT_.out (by kernel_rfl)) (fun _ _ _ h => h) (Or.inl ⟨by rfl,?_⟩) ?_ ?_
     rotate_left;·intro w';go_simp;with_reducible rfl
     rotate_left;·simp only [pu_];rfl
     refine pure_ (i:=1) (N:=some 64) (v:=?_) (a':=?_) (bl 2 12) rfl rfl (any_of HT_.out (by kernel_rfl)) (fun _ _ _ h => h) (Or.inl ⟨by rfl,?_⟩) ?_ ?_
     rotate_left;·intro w';go_simp;with_reducible rfl
     rotate_left;·simp only [pu_];rfl
     refine pure_ (i:=2) (N:=some 65) (v:=?_) (a':=?_) (bl 3 11) rfl rfl (any_of HT_.out (by kernel_rfl)) (fun _ _ _ h => h) (Or.inl ⟨by rfl,?_⟩) ?_ ?_
     rotate_left;·intro w';go_simp;with_reducible rfl
     rotate_left;·simp only [pu_];rfl
     refine pure_ (i:=3) (N:=some 66) (v:=?_) (a':=?_) (bl 4 10) rfl rfl (any_of HT_.out (by kernel_rfl)) (fun _ _ _ h => h) (Or.inl ⟨by rfl,?_⟩) ?_ ?_
     rotate_left;·intro w';go_simp;with_reducible rfl
     rotate_left;·simp only [pu_];rfl
     refine pure_ (i:=4) (N:=some 67) (v:=?_) (a':=?_) (bl 5 9) rfl rfl (any_of HT_.out (by kernel_rfl)) (fun _ _ _ h => h) (Or.inl ⟨by rfl,?_⟩) ?_ ?_
     rotate_left;·intro w';go_simp;with_reducible rfl
     rotate_left;·simp only [pu_];rfl
     refine pure_ (i:=5) (N:=some 68) (v:=?_) (a':=?_) (bl 6 8) rfl rfl (any_of HT_.out (by kernel_rfl)) (fun _ _ _ h => h) (Or.inl ⟨by rfl,?_⟩) ?_ ?_
     rotate_left;·intro w';go_simp;with_reducible rfl
     rotate_left;·simp only [pu_];rfl
     refine pure_ (i:=6) (N:=some 69) (v:=?_) (a':=?_) (bl 7 7) rfl rfl (any_of HT_.out (by kernel_rfl)) (fun _ _ _ h => h) (Or.inl ⟨by rfl,?_⟩) ?_ ?_
     rotate_left;·intro w';go_simp;with_reducible rfl
     rotate_left;·simp only [pu_];rfl
     refine pure_ (i:=7) (N:=some 70) (v:=?_) (a':=?_) (bl 8 6) rfl rfl (any_of HT_.out (by kernel_rfl)) (fun _ _ _ h => h) (Or.inl ⟨by rfl,?_⟩) ?_ ?_
     rotate_left;·intro w';go_simp;with_reducible rfl
     rotate_left;·simp only [pu_];rfl
     refine one_ (i:=8) (N:=some 71) (bl 9 5) rfl rfl (one_of HT_.out (by kernel_rfl)) (by decide) (fun K hK => ?_)
     refine goes_ Tryz.func41 (by kernel_rfl) rfl #[.slice Ao15 y824.length co15,.slice Ao52 y828.length co52] (by rfl) rfl rfl (by (try simp only [List.map_toArray,List.map_cons,List.map_nil]);first|done|rfl|(simp only [List.length_drop,List.length_take];rfl)) ?_
     with_reducible refine (quant_Plus.calls kj27 _ _ y824 _ _ y828 t832 t833 _ ?side1 ?side2 ?side3 ?side4 A46.out (Glob.below hG.toGlob (by repeat (first|(with_reducible first|exact HB.out|apply below_alloc|apply pw_below_drewN|apply below_drew1)|exact HB.out)))).mono ?_
     (case side1 => repeat (first|exact (by repeat (first|(with_reducible exact HR827.out)|(with_reducible refine Kd.C_alloc ?_ _)|(with_reducible refine Kd.C_drewN ?_ _)|(with_reducible refine Kd.C_drew ?_)|exact HR827.out))|(with_reducible refine Kd.C_alloc ?_ _)|(with_reducible refine Kd.C_drewN ?_ _)|(with_reducible refine Kd.C_drew ?_)))
     (case side2 => exact HC827.out)
     (case side3 => repeat (first|exact (by repeat (first|(with_reducible exact HR831.out)|(with_reducible refine Kd.C_alloc ?_ _)|(with_reducible refine Kd.C_drewN ?_ _)|(with_reducible refine Kd.C_drew ?_)|exact HR831.out))|(with_reducible refine Kd.C_alloc ?_ _)|(with_reducible refine Kd.C_drewN ?_ _)|(with_reducible refine Kd.C_drew ?_)))
     (case side4 => exact HC831.out)
     rintro e w53 ⟨v834,rfl,ho0,hb⟩
     refine ⟨_,rfl,?_⟩
     have n0_:=Aside0.mk (Kd.R_elder' (by (with_reducible repeat (first|apply Kd.R_alloc|apply Kd.R_drewN|apply Kd.R_drew));exact HO_5.out) (Kd.R_base ho0) hb)
     have n1_:=Aside0.mk (Kd.R_elder' (by (with_reducible repeat (first|apply Kd.R_alloc|apply Kd.R_drewN|apply Kd.R_drew));exact HO_6.out) (Kd.R_base ho0) hb)
     have n2_:=Aside0.mk (Kd.R_lower (Kd.R_new' (Kd.R_new' ho0 (Kd.R_lt (by (with_reducible repeat (first|apply Kd.R_alloc|apply Kd.R_drewN|apply Kd.R_drew));exact HO_5.out))) (Kd.R_lt (by (with_reducible repeat (first|apply Kd.R_alloc|apply Kd.R_drewN|apply Kd.R_drew));exact HO_6.out))) (below_size (by repeat (first|(with_reducible first|exact HB.out|apply below_alloc|apply pw_below_drewN|apply below_drew1)|exact HB.out))))
     have n3_:=Aside0.mk ((show Kd.C k57 _ Ao15 y803.length y803 from Kd.C_below (by repeat (first|(with_reducible exact HR806.out)|(with_reducible refine Kd.C_alloc ?_ _)|(with_reducible refine Kd.C_drewN ?_ _)|(with_reducible refine Kd.C_drew ?_)|exact HR806.out)) hb))
     have n4_:=Aside0.mk ((show Kd.C k57 _ Ao15 y810.length y810 from Kd.C_below (by repeat (first|(with_reducible exact HR813.out)|(with_reducible refine Kd.C_alloc ?_ _)|(with_reducible refine Kd.C_drewN ?_ _)|(with_reducible refine Kd.C_drew ?_)|exact HR813.out)) hb))
     have n5_:=Aside0.mk ((show Kd.C k57 _ Ao15 y824.length y824 from Kd.C_below (by repeat (first|(with_reducible exact HR827.out)|(with_reducible refine Kd.C_alloc ?_ _)|(with_reducible refine Kd.C_drewN ?_ _)|(with_reducible refine Kd.C_drew ?_)|exact HR827.out)) hb))
     have n6_:=Aside0.mk ((show Kd.C k57 _ Ao52 y828.length y828 from Kd.C_below (by repeat (first|(with_reducible exact HR831.out)|(with_reducible refine Kd.C_alloc ?_ _)|(with_reducible refine Kd.C_drewN ?_ _)|(with_reducible refine Kd.C_drew ?_)|exact HR831.out)) hb))
     have n7_:=Aside0.mk (below_step (by repeat (first|(with_reducible first|exact HB.out|apply below_alloc|apply pw_below_drewN|apply below_drew1)|exact HB.out)) hb)
     clear HO_5;clear HO_6;clear HR806;clear HR813;clear HR827;clear HR831;clear HB;have HO_5:=n0_;have HO_6:=n1_;have HO835:=n2_;have HR806:=n3_;have HR813:=n4_;have HR827:=n5_;have HR831:=n6_;have HB:=n7_;clear n0_ n1_ n2_ n3_ n4_ n5_ n6_ n7_;(try clear hb);(try clear hb2);(try clear hk);(try clear hi);(try clear ho0)
     refine hK.out _ _ trivial (fun hHeld => ?_)
     clear hK K
     refine norm_ (a':=?_) ?_ ?_
     rotate_left
     ·show Act.put _ (some 71) _ = _
      simp only [pu_]
      rfl
     refine pure_ (i:=9) (N:=some 62) (v:=?_) (a':=?_) (bl 10 4) rfl rfl (any_of HT_.out (by kernel_rfl)) (fun _ _ _ h => h) (Or.inl ⟨by rfl,?_⟩) ?_ ?_
     rotate_left;·intro w';go_simp;with_reducible rfl
     rotate_left;·simp only [pu_];rfl
     refine pure_ (i:=10) (N:=some 72) (v:=?_) (a':=?_) (bl 11 3) rfl rfl (any_of HT_.out (by kernel_rfl)) (fun _ _ _ h => h) (Or.inl ⟨by rfl,?_⟩) ?_ ?_
     rotate_left;·intro w';go_simp;with_reducible rfl
     rotate_left;·simp only [pu_];rfl
     refine pure_ (i:=11) (N:=some 73) (v:=?_) (a':=?_) (bl 12 2) rfl rfl (any_of HT_.out (by kernel_rfl)) (fun _ _ _ h => h) (Or.inl ⟨by rfl,?_⟩) ?_ ?_
     rotate_left;·intro w';go_simp;with_reducible rfl
     rotate_left;·simp only [pu_];rfl
     refine pure_ (i:=12) (N:=some 8) (v:=?_) (a':=?_) (bl 13 1) rfl rfl (any_of HT_.out (by kernel_rfl)) (fun _ _ _ h => h) (Or.inl ⟨by rfl,?_⟩) ?_ ?_
     rotate_left;·intro w';go_simp;with_reducible rfl
     rotate_left;·simp only [pu_];rfl
     refine pure_ (i:=13) (N:=some 7) (v:=?_) (a':=?_) (bl 14 0) rfl rfl (any_of HT_.out (by kernel_rfl)) (fun _ _ _ h => h) (Or.inl ⟨by rfl,?_⟩) ?_ ?_
     rotate_left;·intro w';go_simp;with_reducible rfl
     rotate_left;·simp only [pu_];rfl
     refine done_ (done_of HT_.out (by kernel_rfl)) ?_
     go_upto_region 14 with (first|((with_reducible refine gate_callee (f:=47) rfl ?_);refine goesL_ (some 77) rfl rfl Tryz.func47 (by kernel_rfl) rfl #[.slice A0 l0.length c0,.slice A1 l1.length c1] rfl (by (try simp only [List.map_toArray,List.map_cons,List.map_nil]);first|done|rfl|(simp only [List.length_drop,List.length_take];rfl)) ?_;(with_reducible refine (bursarref03_Plus.calls kj27 _ _ l0 _ _ l1 t836 t837 _ ?side1 ?side2 ?side3 ?side4 A47.out).mono ?_);(case side1 => repeat (first|exact (Kd.C_below HR0.out HB.out)|(with_reducible refine Kd.C_alloc ?_ _)|(with_reducible refine Kd.C_drewN ?_ _)|(with_reducible refine Kd.C_drew ?_)));(case side2 => exact HC0.out);(case side3 => repeat (first|exact (Kd.C_below HR1.out HB.out)|(with_reducible refine Kd.C_alloc ?_ _)|(with_reducible refine Kd.C_drewN ?_ _)|(with_reducible refine Kd.C_drew ?_)));(case side4 => exact HC1.out);rintro e w54 ⟨v838,rfl,ho0,hb⟩;refine ⟨_,rfl,?_⟩;have n0_:=Aside0.mk (Kd.R_elder' (by (with_reducible repeat (first|apply Kd.R_alloc|apply Kd.R_drewN|apply Kd.R_drew));exact HO_5.out) (Kd.R_base ho0) hb);have n1_:=Aside0.mk (Kd.R_elder' (by (with_reducible repeat (first|apply Kd.R_alloc|apply Kd.R_drewN|apply Kd.R_drew));exact HO_6.out) (Kd.R_base ho0) hb);have n2_:=Aside0.mk (Kd.R_elder' (by (with_reducible repeat (first|apply Kd.R_alloc|apply Kd.R_drewN|apply Kd.R_drew));exact HO835.out) (Kd.R_base ho0) hb);have n3_:=Aside0.mk (Kd.R_lower (Kd.R_new' (Kd.R_new' (Kd.R_new' ho0 (Kd.R_lt (by (with_reducible repeat (first|apply Kd.R_alloc|apply Kd.R_drewN|apply Kd.R_drew));exact HO_5.out))) (Kd.R_lt (by (with_reducible repeat (first|apply Kd.R_alloc|apply Kd.R_drewN|apply Kd.R_drew));exact HO_6.out))) (Kd.R_lt (by (with_reducible repeat (first|apply Kd.R_alloc|apply Kd.R_drewN|apply Kd.R_drew));exact HO835.out))) (below_size (by repeat (first|(with_reducible first|exact HB.out|apply below_alloc|apply pw_below_drewN|apply below_drew1)|exact HB.out))));have n4_:=Aside0.mk ((show Kd.C k57 _ Ao15 y803.length y803 from Kd.C_below (by repeat (first|(with_reducible exact HR806.out)|(with_reducible refine Kd.C_alloc ?_ _)|(with_reducible refine Kd.C_drewN ?_ _)|(with_reducible refine Kd.C_drew ?_)|exact HR806.out)) hb));have n5_:=Aside0.mk ((show Kd.C k57 _ Ao15 y810.length y810 from Kd.C_below (by repeat (first|(with_reducible exact HR813.out)|(with_reducible refine Kd.C_alloc ?_ _)|(with_reducible refine Kd.C_drewN ?_ _)|(with_reducible refine Kd.C_drew ?_)|exact HR813.out)) hb));have n6_:=Aside0.mk ((show Kd.C k57 _ Ao15 y824.length y824 from Kd.C_below (by repeat (first|(with_reducible exact HR827.out)|(with_reducible refine Kd.C_alloc ?_ _)|(with_reducible refine Kd.C_drewN ?_ _)|(with_reducible refine Kd.C_drew ?_)|exact HR827.out)) hb));have n7_:=Aside0.mk ((show Kd.C k57 _ Ao52 y828.length y828 from Kd.C_below (by repeat (first|(with_reducible exact HR831.out)|(with_reducible refine Kd.C_alloc ?_ _)|(with_reducible refine Kd.C_drewN ?_ _)|(with_reducible refine Kd.C_drew ?_)|exact HR831.out)) hb));have n8_:=Aside0.mk (below_step (by repeat (first|(with_reducible first|exact HB.out|apply below_alloc|apply pw_below_drewN|apply below_drew1)|exact HB.out)) hb);clear HO_5;clear HO_6;clear HO835;clear HR806;clear HR813;clear HR827;clear HR831;clear HB;have HO_5:=n0_;have HO_6:=n1_;have HO835:=n2_;have HO839:=n3_;have HR806:=n4_;have HR813:=n5_;have HR827:=n6_;have HR831:=n7_;have HB:=n8_;clear n0_ n1_ n2_ n3_ n4_ n5_ n6_ n7_ n8_;(try clear hb);(try clear hb2);(try clear hk);(try clear hi);(try clear ho0)))
     (try simp only [Act.put,List.setIfInBounds_toArray,List.set_cons_zero,List.set_cons_succ])
     go_cut [100] (fun v100 wc => ∃ (kq : Nat) (x100_47 : Bool),v100 = .bool x100_47 ∧ Aside0 (bursarlaw03_QuantLists.j2 kq l0 l1 t797 t800 x100_47 = some r) ∧ Aside0 (kq ≤ kj27) ∧ Aside0 (Kd.R k57 57 wc w.heap.size (fun k_ => some k_ ≠ ((.slice Ao52 t800.length co52) : Value).ownBlock) (.slice Ao15 t797.length co15) t797) ∧ Aside0 (Kd.R k57 57 wc w.heap.size (fun k_ => some k_ ≠ ((.slice Ao15 t797.length co15) : Value).ownBlock) (.slice Ao52 t800.length co52) t800) ∧ Aside0 (Kd.C k57 wc Ao15 y803.length y803) ∧ Aside0 (Kd.C k57 wc Ao15 y810.length y810) ∧ Aside0 (Kd.C k57 wc Ao15 y824.length y824) ∧ Aside0 (Kd.C k57 wc Ao52 y828.length y828) ∧ Aside0 (Below w.heap.size w wc))
     case first => as_aux_lemma =>
      have H:=HC48.out
      clear HC48
      by_cases c55 : t833 = t837
      rotate_left
      ·rw [if_neg c55] at H
       have c55b0 : (t833 == t837) = false:=beq_eq_false_iff_ne.mpr c55
       have c55b1 : (t833 != t837) = true:=bne_iff_ne.mpr c55
       (first|rw [c55b0]|(simp only [i64_w,i32_w];rw [c55b0])|skip)
       have H':=Aside0.mk H
       clear H
       go_wp2
       go_meet
       case rel => exact ⟨_,(true),(by first|rfl|(simp;done)|(simp [*];done)|(simp;rw [Bool.eq_iff_iff];simp;done)|(rw [Bool.eq_iff_iff];simp;done)),H',⟨by have:=HJ9.out;have:=HJ27.out;first|omega|exact Nat.le_refl _⟩,⟨by (with_reducible repeat (first|apply Kd.R_alloc|apply Kd.R_drewN|apply Kd.R_drew));exact Kd.R_mono HO_5.out (fun _ hk => hk.1.1)⟩,⟨by (with_reducible repeat (first|apply Kd.R_alloc|apply Kd.R_drewN|apply Kd.R_drew));exact Kd.R_mono HO_6.out (fun _ hk => hk.1.1)⟩,⟨by repeat (first|(with_reducible exact HR806.out)|(with_reducible refine Kd.C_alloc ?_ _)|(with_reducible refine Kd.C_drewN ?_ _)|(with_reducible refine Kd.C_drew ?_)|exact HR806.out)⟩,⟨by repeat (first|(with_reducible exact HR813.out)|(with_reducible refine Kd.C_alloc ?_ _)|(with_reducible refine Kd.C_drewN ?_ _)|(with_reducible refine Kd.C_drew ?_)|exact HR813.out)⟩,⟨by repeat (first|(with_reducible exact HR827.out)|(with_reducible refine Kd.C_alloc ?_ _)|(with_reducible refine Kd.C_drewN ?_ _)|(with_reducible refine Kd.C_drew ?_)|exact HR827.out)⟩,⟨by repeat (first|(with_reducible exact HR831.out)|(with_reducible refine Kd.C_alloc ?_ _)|(with_reducible refine Kd.C_drewN ?_ _)|(with_reducible refine Kd.C_drew ?_)|exact HR831.out)⟩,⟨by repeat (first|(with_reducible first|exact HB.out|apply below_alloc|apply pw_below_drewN|apply below_drew1)|exact HB.out)⟩⟩
      rw [if_pos c55] at H
      have c55b0 : (t833 == t837) = true:=beq_iff_eq.mpr c55
      have c55b1 : (t833 != t837) = false:=bne_eq_false_iff_eq.mpr c55
      clear c55
      (first|rw [c55b0]|(simp only [i64_w,i32_w];rw [c55b0])|skip)
      replace H:=Option.bind_eq_some_iff.mp H
      obtain ⟨t840,A560,H⟩:=H
      replace H : (if t840 = true then ((bursarlaw03_untouched.f kj27 t797 l0).bind fun t841 => (if t841 = true then ((bursarlaw03_untouched.f kj27 t800 l1).bind fun t842 => (bursarlaw03_QuantLists.j2 kj27 l0 l1 t797 t800 (!t842))) else (bursarlaw03_QuantLists.j2 kj27 l0 l1 t797 t800 true))) else (bursarlaw03_QuantLists.j2 kj27 l0 l1 t797 t800 true)) = some r:=H
      have A56:=Aside0.mk A560
      clear A560
      by_cases c57 : t840 = true
      rotate_left
      ·replace c57:=Bool.eq_false_iff.mpr c57
       subst c57
       have H1 : (bursarlaw03_QuantLists.j2 kj27 l0 l1 t797 t800 true) = some r:=by rw [if_neg (show ¬ (false = true) by decide)] at H;exact H
       clear H;have H:=H1;clear H1
       have H':=Aside0.mk H
       clear H
       obtain ⟨Ao68,co68,eo68⟩:=Kd.R_slice HO835.out
       subst eo68
       obtain ⟨Ao69,co69,eo69⟩:=Kd.R_slice HO839.out
       subst eo69
       go_wp2_with (first|(go_at_call 39;(with_reducible refine (bursarlaw03_same.calls kj27 _ _ t832 _ _ t836 false _ ?side1 ?side2 ?side3 ?side4 A56.out).mono ?_);(case side1 => repeat (first|exact (Kd.R_reads' HO835.out).2.2|(with_reducible refine Kd.C_alloc ?_ _)|(with_reducible refine Kd.C_drewN ?_ _)|(with_reducible refine Kd.C_drew ?_)));(case side2 => exact (Kd.R_reads' HO835.out).2.1);(case side3 => repeat (first|exact (Kd.R_reads' HO839.out).2.2|(with_reducible refine Kd.C_alloc ?_ _)|(with_reducible refine Kd.C_drewN ?_ _)|(with_reducible refine Kd.C_drew ?_)));(case side4 => exact (Kd.R_reads' HO839.out).2.1);rintro e w' ⟨rfl,⟨nd,rfl⟩⟩))
       go_meet
       case rel => exact ⟨_,(true),(by first|rfl|(simp;done)|(simp [*];done)|(simp;rw [Bool.eq_iff_iff];simp;done)|(rw [Bool.eq_iff_iff];simp;done)),H',⟨by have:=HJ9.out;have:=HJ27.out;first|omega|exact Nat.le_refl _⟩,⟨by (with_reducible repeat (first|apply Kd.R_alloc|apply Kd.R_drewN|apply Kd.R_drew));exact Kd.R_mono HO_5.out (fun _ hk => hk.1.1)⟩,⟨by (with_reducible repeat (first|apply Kd.R_alloc|apply Kd.R_drewN|apply Kd.R_drew));exact Kd.R_mono HO_6.out (fun _ hk => hk.1.1)⟩,⟨by repeat (first|(with_reducible exact HR806.out)|(with_reducible refine Kd.C_alloc ?_ _)|(with_reducible refine Kd.C_drewN ?_ _)|(with_reducible refine Kd.C_drew ?_)|exact HR806.out)⟩,⟨by repeat (first|(with_reducible exact HR813.out)|(with_reducible refine Kd.C_alloc ?_ _)|(with_reducible refine Kd.C_drewN ?_ _)|(with_reducible refine Kd.C_drew ?_)|exact HR813.out)⟩,⟨by repeat (first|(with_reducible exact HR827.out)|(with_reducible refine Kd.C_alloc ?_ _)|(with_reducible refine Kd.C_drewN ?_ _)|(with_reducible refine Kd.C_drew ?_)|exact HR827.out)⟩,⟨by repeat (first|(with_reducible exact HR831.out)|(with_reducible refine Kd.C_alloc ?_ _)|(with_reducible refine Kd.C_drewN ?_ _)|(with_reducible refine Kd.C_drew ?_)|exact HR831.out)⟩,⟨by repeat (first|(with_reducible first|exact HB.out|apply below_alloc|apply pw_below_drewN|apply below_drew1)|exact HB.out)⟩⟩
      subst c57
      have H1 : ((bursarlaw03_untouched.f kj27 t797 l0).bind fun t841 => (if t841 = true then ((bursarlaw03_untouched.f kj27 t800 l1).bind fun t842 => (bursarlaw03_QuantLists.j2 kj27 l0 l1 t797 t800 (!t842))) else (bursarlaw03_QuantLists.j2 kj27 l0 l1 t797 t800 true))) = some r:=by rw [if_pos rfl] at H;exact H
      clear H;have H:=H1;clear H1
      replace H:=Option.bind_eq_some_iff.mp H
      obtain ⟨t841,A580,H⟩:=H
      replace H : (if t841 = true then ((bursarlaw03_untouched.f kj27 t800 l1).bind fun t842 => (bursarlaw03_QuantLists.j2 kj27 l0 l1 t797 t800 (!t842))) else (bursarlaw03_QuantLists.j2 kj27 l0 l1 t797 t800 true)) = some r:=H
      have A58:=Aside0.mk A580
      clear A580
      by_cases c59 : t841 = true
      rotate_left
      ·replace c59:=Bool.eq_false_iff.mpr c59
       subst c59
       have H1 : (bursarlaw03_QuantLists.j2 kj27 l0 l1 t797 t800 true) = some r:=by rw [if_neg (show ¬ (false = true) by decide)] at H;exact H
       clear H;have H:=H1;clear H1
       have H':=Aside0.mk H
       clear H
       obtain ⟨Ao65,co65,eo65⟩:=Kd.R_slice HO835.out
       subst eo65
       obtain ⟨Ao66,co66,eo66⟩:=Kd.R_slice HO839.out
       subst eo66
       go_wp2_with (first|(go_at_call 39;(with_reducible refine (bursarlaw03_same.calls kj27 _ _ t832 _ _ t836 true _ ?side1 ?side2 ?side3 ?side4 A56.out).mono ?_);(case side1 => repeat (first|exact (Kd.R_reads' HO835.out).2.2|(with_reducible refine Kd.C_alloc ?_ _)|(with_reducible refine Kd.C_drewN ?_ _)|(with_reducible refine Kd.C_drew ?_)));(case side2 => exact (Kd.R_reads' HO835.out).2.1);(case side3 => repeat (first|exact (Kd.R_reads' HO839.out).2.2|(with_reducible refine Kd.C_alloc ?_ _)|(with_reducible refine Kd.C_drewN ?_ _)|(with_reducible refine Kd.C_drew ?_)));(case side4 => exact (Kd.R_reads' HO839.out).2.1);rintro e w' ⟨rfl,⟨nd,rfl⟩⟩)|(go_at_call 32;(with_reducible refine (bursarlaw03_untouched.calls kj27 _ _ t797 _ _ l0 false _ ?side1 ?side2 ?side3 ?side4 A58.out (GlobM.below hG (by repeat (first|(with_reducible first|exact HB.out|apply below_alloc|apply pw_below_drewN|apply below_drew1)|exact HB.out)))).mono ?_);(case side1 => repeat (first|exact (Kd.R_reads' HO_5.out).2.2|(with_reducible refine Kd.C_alloc ?_ _)|(with_reducible refine Kd.C_drewN ?_ _)|(with_reducible refine Kd.C_drew ?_)));(case side2 => exact (Kd.R_reads' HO_5.out).2.1);(case side3 => repeat (first|exact (Kd.C_below HR0.out (by repeat (first|(with_reducible first|exact HB.out|apply below_alloc|apply pw_below_drewN|apply below_drew1)|exact HB.out)))|(with_reducible refine Kd.C_alloc ?_ _)|(with_reducible refine Kd.C_drewN ?_ _)|(with_reducible refine Kd.C_drew ?_)));(case side4 => exact HC0.out);rintro e w67 ⟨rfl,hb⟩;have n0_:=Aside0.mk (Kd.R_below (by (with_reducible repeat (first|apply Kd.R_alloc|apply Kd.R_drewN|apply Kd.R_drew));exact HO_5.out) hb);have n1_:=Aside0.mk (Kd.R_below (by (with_reducible repeat (first|apply Kd.R_alloc|apply Kd.R_drewN|apply Kd.R_drew));exact HO_6.out) hb);have n2_:=Aside0.mk (Kd.R_below (by (with_reducible repeat (first|apply Kd.R_alloc|apply Kd.R_drewN|apply Kd.R_drew));exact HO835.out) hb);have n3_:=Aside0.mk (Kd.R_below (by (with_reducible repeat (first|apply Kd.R_alloc|apply Kd.R_drewN|apply Kd.R_drew));exact HO839.out) hb);have n4_:=Aside0.mk ((show Kd.C k57 _ Ao15 y803.length y803 from Kd.C_below (by repeat (first|(with_reducible exact HR806.out)|(with_reducible refine Kd.C_alloc ?_ _)|(with_reducible refine Kd.C_drewN ?_ _)|(with_reducible refine Kd.C_drew ?_)|exact HR806.out)) hb));have n5_:=Aside0.mk ((show Kd.C k57 _ Ao15 y810.length y810 from Kd.C_below (by repeat (first|(with_reducible exact HR813.out)|(with_reducible refine Kd.C_alloc ?_ _)|(with_reducible refine Kd.C_drewN ?_ _)|(with_reducible refine Kd.C_drew ?_)|exact HR813.out)) hb));have n6_:=Aside0.mk ((show Kd.C k57 _ Ao15 y824.length y824 from Kd.C_below (by repeat (first|(with_reducible exact HR827.out)|(with_reducible refine Kd.C_alloc ?_ _)|(with_reducible refine Kd.C_drewN ?_ _)|(with_reducible refine Kd.C_drew ?_)|exact HR827.out)) hb));have n7_:=Aside0.mk ((show Kd.C k57 _ Ao52 y828.length y828 from Kd.C_below (by repeat (first|(with_reducible exact HR831.out)|(with_reducible refine Kd.C_alloc ?_ _)|(with_reducible refine Kd.C_drewN ?_ _)|(with_reducible refine Kd.C_drew ?_)|exact HR831.out)) hb));have n8_:=Aside0.mk (below_step (by repeat (first|(with_reducible first|exact HB.out|apply below_alloc|apply pw_below_drewN|apply below_drew1)|exact HB.out)) hb);clear HO_5;clear HO_6;clear HO835;clear HO839;clear HR806;clear HR813;clear HR827;clear HR831;clear HB;have HO_5:=n0_;have HO_6:=n1_;have HO835:=n2_;have HO839:=n3_;have HR806:=n4_;have HR813:=n5_;have HR827:=n6_;have HR831:=n7_;have HB:=n8_;clear n0_ n1_ n2_ n3_ n4_ n5_ n6_ n7_ n8_;(try clear hb);(try clear hb2);(try clear hk);(try clear hi)))
       go_meet
       case rel => exact ⟨_,(true),(by first|rfl|(simp;done)|(simp [*];done)|(simp;rw [Bool.eq_iff_iff];simp;done)|(rw [Bool.eq_iff_iff];simp;done)),H',⟨by have:=HJ9.out;have:=HJ27.out;first|omega|exact Nat.le_refl _⟩,⟨by (with_reducible repeat (first|apply Kd.R_alloc|apply Kd.R_drewN|apply Kd.R_drew));exact Kd.R_mono HO_5.out (fun _ hk => hk.1.1)⟩,⟨by (with_reducible repeat (first|apply Kd.R_alloc|apply Kd.R_drewN|apply Kd.R_drew));exact Kd.R_mono HO_6.out (fun _ hk => hk.1.1)⟩,⟨by repeat (first|(with_reducible exact HR806.out)|(with_reducible refine Kd.C_alloc ?_ _)|(with_reducible refine Kd.C_drewN ?_ _)|(with_reducible refine Kd.C_drew ?_)|exact HR806.out)⟩,⟨by repeat (first|(with_reducible exact HR813.out)|(with_reducible refine Kd.C_alloc ?_ _)|(with_reducible refine Kd.C_drewN ?_ _)|(with_reducible refine Kd.C_drew ?_)|exact HR813.out)⟩,⟨by repeat (first|(with_reducible exact HR827.out)|(with_reducible refine Kd.C_alloc ?_ _)|(with_reducible refine Kd.C_drewN ?_ _)|(with_reducible refine Kd.C_drew ?_)|exact HR827.out)⟩,⟨by repeat (first|(with_reducible exact HR831.out)|(with_reducible refine Kd.C_alloc ?_ _)|(with_reducible refine Kd.C_drewN ?_ _)|(with_reducible refine Kd.C_drew ?_)|exact HR831.out)⟩,⟨by repeat (first|(with_reducible first|exact HB.out|apply below_alloc|apply pw_below_drewN|apply below_drew1)|exact HB.out)⟩⟩
      subst c59
      have H1 : ((bursarlaw03_untouched.f kj27 t800 l1).bind fun t842 => (bursarlaw03_QuantLists.j2 kj27 l0 l1 t797 t800 (!t842))) = some r:=by rw [if_pos rfl] at H;exact H
      clear H;have H:=H1;clear H1
      replace H:=Option.bind_eq_some_iff.mp H
      obtain ⟨t842,A600,H⟩:=H
      replace H : (bursarlaw03_QuantLists.j2 kj27 l0 l1 t797 t800 (!t842)) = some r:=H
      have A60:=Aside0.mk A600
      clear A600
      have H':=Aside0.mk H
      clear H
      obtain ⟨Ao61,co61,eo61⟩:=Kd.R_slice HO835.out
      subst eo61
      obtain ⟨Ao62,co62,eo62⟩:=Kd.R_slice HO839.out
      subst eo62
      go_wp2_with (first|(go_at_call 39;(with_reducible refine (bursarlaw03_same.calls kj27 _ _ t832 _ _ t836 true _ ?side1 ?side2 ?side3 ?side4 A56.out).mono ?_);(case side1 => repeat (first|exact (Kd.R_reads' HO835.out).2.2|(with_reducible refine Kd.C_alloc ?_ _)|(with_reducible refine Kd.C_drewN ?_ _)|(with_reducible refine Kd.C_drew ?_)));(case side2 => exact (Kd.R_reads' HO835.out).2.1);(case side3 => repeat (first|exact (Kd.R_reads' HO839.out).2.2|(with_reducible refine Kd.C_alloc ?_ _)|(with_reducible refine Kd.C_drewN ?_ _)|(with_reducible refine Kd.C_drew ?_)));(case side4 => exact (Kd.R_reads' HO839.out).2.1);rintro e w' ⟨rfl,⟨nd,rfl⟩⟩)|(go_at_call 32;(with_reducible refine (bursarlaw03_untouched.calls kj27 _ _ t797 _ _ l0 true _ ?side1 ?side2 ?side3 ?side4 A58.out (GlobM.below hG (by repeat (first|(with_reducible first|exact HB.out|apply below_alloc|apply pw_below_drewN|apply below_drew1)|exact HB.out)))).mono ?_);(case side1 => repeat (first|exact (Kd.R_reads' HO_5.out).2.2|(with_reducible refine Kd.C_alloc ?_ _)|(with_reducible refine Kd.C_drewN ?_ _)|(with_reducible refine Kd.C_drew ?_)));(case side2 => exact (Kd.R_reads' HO_5.out).2.1);(case side3 => repeat (first|exact (Kd.C_below HR0.out (by repeat (first|(with_reducible first|exact HB.out|apply below_alloc|apply pw_below_drewN|apply below_drew1)|exact HB.out)))|(with_reducible refine Kd.C_alloc ?_ _)|(with_reducible refine Kd.C_drewN ?_ _)|(with_reducible refine Kd.C_drew ?_)));(case side4 => exact HC0.out);rintro e w63 ⟨rfl,hb⟩;have n0_:=Aside0.mk (Kd.R_below (by (with_reducible repeat (first|apply Kd.R_alloc|apply Kd.R_drewN|apply Kd.R_drew));exact HO_5.out) hb);have n1_:=Aside0.mk (Kd.R_below (by (with_reducible repeat (first|apply Kd.R_alloc|apply Kd.R_drewN|apply Kd.R_drew));exact HO_6.out) hb);have n2_:=Aside0.mk (Kd.R_below (by (with_reducible repeat (first|apply Kd.R_alloc|apply Kd.R_drewN|apply Kd.R_drew));exact HO835.out) hb);have n3_:=Aside0.mk (Kd.R_below (by (with_reducible repeat (first|apply Kd.R_alloc|apply Kd.R_drewN|apply Kd.R_drew));exact HO839.out) hb);have n4_:=Aside0.mk ((show Kd.C k57 _ Ao15 y803.length y803 from Kd.C_below (by repeat (first|(with_reducible exact HR806.out)|(with_reducible refine Kd.C_alloc ?_ _)|(with_reducible refine Kd.C_drewN ?_ _)|(with_reducible refine Kd.C_drew ?_)|exact HR806.out)) hb));have n5_:=Aside0.mk ((show Kd.C k57 _ Ao15 y810.length y810 from Kd.C_below (by repeat (first|(with_reducible exact HR813.out)|(with_reducible refine Kd.C_alloc ?_ _)|(with_reducible refine Kd.C_drewN ?_ _)|(with_reducible refine Kd.C_drew ?_)|exact HR813.out)) hb));have n6_:=Aside0.mk ((show Kd.C k57 _ Ao15 y824.length y824 from Kd.C_below (by repeat (first|(with_reducible exact HR827.out)|(with_reducible refine Kd.C_alloc ?_ _)|(with_reducible refine Kd.C_drewN ?_ _)|(with_reducible refine Kd.C_drew ?_)|exact HR827.out)) hb));have n7_:=Aside0.mk ((show Kd.C k57 _ Ao52 y828.length y828 from Kd.C_below (by repeat (first|(with_reducible exact HR831.out)|(with_reducible refine Kd.C_alloc ?_ _)|(with_reducible refine Kd.C_drewN ?_ _)|(with_reducible refine Kd.C_drew ?_)|exact HR831.out)) hb));have n8_:=Aside0.mk (below_step (by repeat (first|(with_reducible first|exact HB.out|apply below_alloc|apply pw_below_drewN|apply below_drew1)|exact HB.out)) hb);clear HO_5;clear HO_6;clear HO835;clear HO839;clear HR806;clear HR813;clear HR827;clear HR831;clear HB;have HO_5:=n0_;have HO_6:=n1_;have HO835:=n2_;have HO839:=n3_;have HR806:=n4_;have HR813:=n5_;have HR827:=n6_;have HR831:=n7_;have HB:=n8_;clear n0_ n1_ n2_ n3_ n4_ n5_ n6_ n7_ n8_;(try clear hb);(try clear hb2);(try clear hk);(try clear hi))|(go_at_call 32;(with_reducible refine (bursarlaw03_untouched.calls kj27 _ _ t800 _ _ l1 t842 _ ?side1 ?side2 ?side3 ?side4 A60.out (GlobM.below hG (by repeat (first|(with_reducible first|exact HB.out|apply below_alloc|apply pw_below_drewN|apply below_drew1)|exact HB.out)))).mono ?_);(case side1 => repeat (first|exact (Kd.R_reads' HO_6.out).2.2|(with_reducible refine Kd.C_alloc ?_ _)|(with_reducible refine Kd.C_drewN ?_ _)|(with_reducible refine Kd.C_drew ?_)));(case side2 => exact (Kd.R_reads' HO_6.out).2.1);(case side3 => repeat (first|exact (Kd.C_below HR1.out HB.out)|(with_reducible refine Kd.C_alloc ?_ _)|(with_reducible refine Kd.C_drewN ?_ _)|(with_reducible refine Kd.C_drew ?_)));(case side4 => exact HC1.out);rintro e w64 ⟨rfl,hb⟩;have n0_:=Aside0.mk (Kd.R_below (by (with_reducible repeat (first|apply Kd.R_alloc|apply Kd.R_drewN|apply Kd.R_drew));exact HO_5.out) hb);have n1_:=Aside0.mk (Kd.R_below (by (with_reducible repeat (first|apply Kd.R_alloc|apply Kd.R_drewN|apply Kd.R_drew));exact HO_6.out) hb);have n2_:=Aside0.mk (Kd.R_below (by (with_reducible repeat (first|apply Kd.R_alloc|apply Kd.R_drewN|apply Kd.R_drew));exact HO835.out) hb);have n3_:=Aside0.mk (Kd.R_below (by (with_reducible repeat (first|apply Kd.R_alloc|apply Kd.R_drewN|apply Kd.R_drew));exact HO839.out) hb);have n4_:=Aside0.mk ((show Kd.C k57 _ Ao15 y803.length y803 from Kd.C_below (by repeat (first|(with_reducible exact HR806.out)|(with_reducible refine Kd.C_alloc ?_ _)|(with_reducible refine Kd.C_drewN ?_ _)|(with_reducible refine Kd.C_drew ?_)|exact HR806.out)) hb));have n5_:=Aside0.mk ((show Kd.C k57 _ Ao15 y810.length y810 from Kd.C_below (by repeat (first|(with_reducible exact HR813.out)|(with_reducible refine Kd.C_alloc ?_ _)|(with_reducible refine Kd.C_drewN ?_ _)|(with_reducible refine Kd.C_drew ?_)|exact HR813.out)) hb));have n6_:=Aside0.mk ((show Kd.C k57 _ Ao15 y824.length y824 from Kd.C_below (by repeat (first|(with_reducible exact HR827.out)|(with_reducible refine Kd.C_alloc ?_ _)|(with_reducible refine Kd.C_drewN ?_ _)|(with_reducible refine Kd.C_drew ?_)|exact HR827.out)) hb));have n7_:=Aside0.mk ((show Kd.C k57 _ Ao52 y828.length y828 from Kd.C_below (by repeat (first|(with_reducible exact HR831.out)|(with_reducible refine Kd.C_alloc ?_ _)|(with_reducible refine Kd.C_drewN ?_ _)|(with_reducible refine Kd.C_drew ?_)|exact HR831.out)) hb));have n8_:=Aside0.mk (below_step (by repeat (first|(with_reducible first|exact HB.out|apply below_alloc|apply pw_below_drewN|apply below_drew1)|exact HB.out)) hb);clear HO_5;clear HO_6;clear HO835;clear HO839;clear HR806;clear HR813;clear HR827;clear HR831;clear HB;have HO_5:=n0_;have HO_6:=n1_;have HO835:=n2_;have HO839:=n3_;have HR806:=n4_;have HR813:=n5_;have HR827:=n6_;have HR831:=n7_;have HB:=n8_;clear n0_ n1_ n2_ n3_ n4_ n5_ n6_ n7_ n8_;(try clear hb);(try clear hb2);(try clear hk);(try clear hi)))
      go_meet
      case rel => exact ⟨_,(!t842),(by first|rfl|(simp;done)|(simp [*];done)|(simp;rw [Bool.eq_iff_iff];simp;done)|(rw [Bool.eq_iff_iff];simp;done)),H',⟨by have:=HJ9.out;have:=HJ27.out;first|omega|exact Nat.le_refl _⟩,⟨by (with_reducible repeat (first|apply Kd.R_alloc|apply Kd.R_drewN|apply Kd.R_drew));exact Kd.R_mono HO_5.out (fun _ hk => hk.1.1)⟩,⟨by (with_reducible repeat (first|apply Kd.R_alloc|apply Kd.R_drewN|apply Kd.R_drew));exact Kd.R_mono HO_6.out (fun _ hk => hk.1.1)⟩,⟨by repeat (first|(with_reducible exact HR806.out)|(with_reducible refine Kd.C_alloc ?_ _)|(with_reducible refine Kd.C_drewN ?_ _)|(with_reducible refine Kd.C_drew ?_)|exact HR806.out)⟩,⟨by repeat (first|(with_reducible exact HR813.out)|(with_reducible refine Kd.C_alloc ?_ _)|(with_reducible refine Kd.C_drewN ?_ _)|(with_reducible refine Kd.C_drew ?_)|exact HR813.out)⟩,⟨by repeat (first|(with_reducible exact HR827.out)|(with_reducible refine Kd.C_alloc ?_ _)|(with_reducible refine Kd.C_drewN ?_ _)|(with_reducible refine Kd.C_drew ?_)|exact HR827.out)⟩,⟨by repeat (first|(with_reducible exact HR831.out)|(with_reducible refine Kd.C_alloc ?_ _)|(with_reducible refine Kd.C_drewN ?_ _)|(with_reducible refine Kd.C_drew ?_)|exact HR831.out)⟩,⟨by repeat (first|(with_reducible first|exact HB.out|apply below_alloc|apply pw_below_drewN|apply below_drew1)|exact HB.out)⟩⟩
     case rest => as_aux_lemma =>
      clear HC48;(try clear c1);(try clear q1);(try clear c2);(try clear p2);(try clear q2);(try clear c3);(try clear c4);(try clear c5);(try clear q5);(try clear c7);(try clear c7b0);(try clear c7b1);(try clear c8);(try clear c8b0);(try clear c8b1);(try clear q14);(try clear c15);(try clear c16);(try clear c18);(try clear c18b0);(try clear c18b1);(try clear c23);(try clear c24);(try clear c24b0);(try clear c24b1);(try clear c25);(try clear c25b0);(try clear c25b1);(try clear c29);(try clear q29);(try clear c32);(try clear c32b0);(try clear c32b1);(try clear c34);(try clear c36);(try clear c40);(try clear c41);(try clear c42);(try clear c42b0);(try clear c42b1);(try clear c43);(try clear c43b0);(try clear c43b1);(try clear c44);(try clear c44b0);(try clear c44b1);(try clear c45);(try clear c45b0);(try clear c45b1);(try clear c46);(try clear c47);(try clear q50);(try clear q51);(try clear c55);(try clear c55b0);(try clear c55b1);(try clear c57);(try clear c59);(try clear p2);(try clear q1);(try clear q14);(try clear q2);(try clear q29);(try clear q50);(try clear q51)
      obtain ⟨kq,x100_47,rfl,HA,HJ47,HO_5,HO_6,HR806,HR813,HR827,HR831,HB⟩:=hcut
      cases kq with
     |zero => exact absurd HA.out (by simp [bursarlaw03_QuantLists.j2])
     |succ kj47 =>
       have H:=HA.out
       clear HA
       simp only [bursarlaw03_QuantLists.j2] at H
       by_cases c70 : x100_47 = true
       ·subst c70
        have H1 : (none) = some r:=by rw [if_pos rfl] at H;exact H
        clear H;have H:=H1;clear H1
        exact absurd H (by simp)
       replace c70:=Bool.eq_false_iff.mpr c70
       subst c70
       have H1 : (if 0 ≤ (l0.length : Int) then (if (l0.length : Int) ≤ (t797.length : Int) then (if 0 ≤ (l1.length : Int) then (if (l1.length : Int) ≤ (t800.length : Int) then ((quant_Minus.f kj47 (t797.take ((l0.length : Int) : Int).toNat) (t800.take ((l1.length : Int) : Int).toNat)).bind fun bt851 => ((bursarref03_Minus.f kj47 l0 l1).bind fun bt855 => (if bt851.2 = bt855.2 then ((bursarlaw03_same.f kj47 bt851.1 bt855.1).bind fun t859 => (if t859 = true then ((bursarlaw03_untouched.f kj47 t797 l0).bind fun t860 => (if t860 = true then ((bursarlaw03_untouched.f kj47 t800 l1).bind fun t861 => (bursarlaw03_QuantLists.j3 kj47 l0 l1 t797 t800 (!t861))) else (bursarlaw03_QuantLists.j3 kj47 l0 l1 t797 t800 true))) else (bursarlaw03_QuantLists.j3 kj47 l0 l1 t797 t800 true))) else (bursarlaw03_QuantLists.j3 kj47 l0 l1 t797 t800 true)))) else (none)) else (none)) else (none)) else (none)) = some r:=by rw [if_neg (show ¬ (false = true) by decide)] at H;exact H
       clear H;have H:=H1;clear H1
       by_cases c71 : 0 ≤ (l0.length : Int)
       rotate_left
       ·rw [if_neg c71] at H
        exact absurd H (by simp)
       rw [if_pos c71] at H
       have c71b0:=eq_true c71
       have c71b1 : decide (0 ≤ (l0.length : Int)) = true:=decide_eq_true c71
       clear c71
       by_cases c72 : (l0.length : Int) ≤ (t797.length : Int)
       rotate_left
       ·rw [if_neg c72] at H
        exact absurd H (by simp)
       rw [if_pos c72] at H
       have c72b0:=eq_true c72
       have c72b1 : decide ((l0.length : Int) ≤ (t797.length : Int)) = true:=decide_eq_true c72
       clear c72
       obtain ⟨y843,hy843⟩ : ∃ y_ : List (S57),y_ = (t797.take ((l0.length : Int) : Int).toNat):=⟨_,rfl⟩
       replace H : (if 0 ≤ (l1.length : Int) then (if (l1.length : Int) ≤ (t800.length : Int) then ((quant_Minus.f kj47 y843 (t800.take ((l1.length : Int) : Int).toNat)).bind fun bt851 => ((bursarref03_Minus.f kj47 l0 l1).bind fun bt855 => (if bt851.2 = bt855.2 then ((bursarlaw03_same.f kj47 bt851.1 bt855.1).bind fun t859 => (if t859 = true then ((bursarlaw03_untouched.f kj47 t797 l0).bind fun t860 => (if t860 = true then ((bursarlaw03_untouched.f kj47 t800 l1).bind fun t861 => (bursarlaw03_QuantLists.j3 kj47 l0 l1 t797 t800 (!t861))) else (bursarlaw03_QuantLists.j3 kj47 l0 l1 t797 t800 true))) else (bursarlaw03_QuantLists.j3 kj47 l0 l1 t797 t800 true))) else (bursarlaw03_QuantLists.j3 kj47 l0 l1 t797 t800 true)))) else (none)) else (none)) = some r:=by first|(rw [hy843];with_reducible exact H)|(have H2_:=(Option.bind_some _ _).symm.trans H;rw [hy843];with_reducible exact H2_)|(have H2_:=(Option.bind_some _ _).symm.trans H;with_reducible exact H2_)|with_reducible exact H|(rw [hy843];exact H)|exact H
       have Ny843:=Aside0.mk hy843
       clear hy843
       by_cases c73 : 0 ≤ (l1.length : Int)
       rotate_left
       ·rw [if_neg c73] at H
        exact absurd H (by simp)
       rw [if_pos c73] at H
       have c73b0:=eq_true c73
       have c73b1 : decide (0 ≤ (l1.length : Int)) = true:=decide_eq_true c73
       clear c73
       by_cases c74 : (l1.length : Int) ≤ (t800.length : Int)
       rotate_left
       ·rw [if_neg c74] at H
        exact absurd H (by simp)
       rw [if_pos c74] at H
       have c74b0:=eq_true c74
       have c74b1 : decide ((l1.length : Int) ≤ (t800.length : Int)) = true:=decide_eq_true c74
       clear c74
       obtain ⟨y847,hy847⟩ : ∃ y_ : List (S57),y_ = (t800.take ((l1.length : Int) : Int).toNat):=⟨_,rfl⟩
       replace H : ((quant_Minus.f kj47 y843 y847).bind fun bt851 => ((bursarref03_Minus.f kj47 l0 l1).bind fun bt855 => (if bt851.2 = bt855.2 then ((bursarlaw03_same.f kj47 bt851.1 bt855.1).bind fun t859 => (if t859 = true then ((bursarlaw03_untouched.f kj47 t797 l0).bind fun t860 => (if t860 = true then ((bursarlaw03_untouched.f kj47 t800 l1).bind fun t861 => (bursarlaw03_QuantLists.j3 kj47 l0 l1 t797 t800 (!t861))) else (bursarlaw03_QuantLists.j3 kj47 l0 l1 t797 t800 true))) else (bursarlaw03_QuantLists.j3 kj47 l0 l1 t797 t800 true))) else (bursarlaw03_QuantLists.j3 kj47 l0 l1 t797 t800 true)))) = some r:=by first|(rw [hy847];with_reducible exact H)|(have H2_:=(Option.bind_some _ _).symm.trans H;rw [hy847];with_reducible exact H2_)|(have H2_:=(Option.bind_some _ _).symm.trans H;with_reducible exact H2_)|with_reducible exact H|(rw [hy847];exact H)|exact H
       have Ny847:=Aside0.mk hy847
       clear hy847
       replace H:=Option.bind_eq_some_iff.mp H
       obtain ⟨⟨t851,t852⟩,A750,H⟩:=H
       replace H : ((bursarref03_Minus.f kj47 l0 l1).bind fun bt855 => (if t852 = bt855.2 then ((bursarlaw03_same.f kj47 t851 bt855.1).bind fun t859 => (if t859 = true then ((bursarlaw03_untouched.f kj47 t797 l0).bind fun t860 => (if t860 = true then ((bursarlaw03_untouched.f kj47 t800 l1).bind fun t861 => (bursarlaw03_QuantLists.j3 kj47 l0 l1 t797 t800 (!t861))) else (bursarlaw03_QuantLists.j3 kj47 l0 l1 t797 t800 true))) else (bursarlaw03_QuantLists.j3 kj47 l0 l1 t797 t800 true))) else (bursarlaw03_QuantLists.j3 kj47 l0 l1 t797 t800 true))) = some r:=H
       have A75:=Aside0.mk A750
       clear A750
       replace H:=Option.bind_eq_some_iff.mp H
       obtain ⟨⟨t855,t856⟩,A760,H⟩:=H
       replace H : (if t852 = t856 then ((bursarlaw03_same.f kj47 t851 t855).bind fun t859 => (if t859 = true then ((bursarlaw03_untouched.f kj47 t797 l0).bind fun t860 => (if t860 = true then ((bursarlaw03_untouched.f kj47 t800 l1).bind fun t861 => (bursarlaw03_QuantLists.j3 kj47 l0 l1 t797 t800 (!t861))) else (bursarlaw03_QuantLists.j3 kj47 l0 l1 t797 t800 true))) else (bursarlaw03_QuantLists.j3 kj47 l0 l1 t797 t800 true))) else (bursarlaw03_QuantLists.j3 kj47 l0 l1 t797 t800 true)) = some r:=H
       have A76:=Aside0.mk A760
       clear A760
       have HC77:=Aside0.mk H
       clear H
       try go_wp2
       have n0_:=Aside0.mk (Kd.R_drew HO_5.out)
       have n1_:=Aside0.mk (Kd.R_drew HO_6.out)
       have n2_:=Aside0.mk (Kd.C_drew HR806.out)
       have n3_:=Aside0.mk (Kd.C_drew HR813.out)
       have n4_:=Aside0.mk (Kd.C_drew HR827.out)
       have n5_:=Aside0.mk (Kd.C_drew HR831.out)
       have n6_:=Aside0.mk (below_drew1 HB.out)
       clear HO_5;clear HO_6;clear HR806;clear HR813;clear HR827;clear HR831;clear HB;have HO_5:=n0_;have HO_6:=n1_;have HR806:=n2_;have HR813:=n3_;have HR827:=n4_;have HR831:=n5_;have HB:=n6_;clear n0_ n1_ n2_ n3_ n4_ n5_ n6_
       have q79 : ((l0.length : Int) : Int) ≤ ((t797.length : Int) : Int):=of_decide_eq_true (by first|(with_reducible assumption)|assumption)
       obtain ⟨i079,hi079,_,hsz79,_⟩:=info_parts info57
       have hroom79 : t797.length ≤ co15:=(Kd.R_reads' HO_5.out).2.1
       have hC79 : Kd.C k57 _ Ao15 t797.length t797:=(Kd.R_reads' HO_5.out).2.2
       (try clear hcut14);(try clear hcut29);(try clear hcut50);have hcut79:=cut_to (P:=Tryz.prog) 46 57 .i64 Tryz.underlying46 hi079 Ao15 t797.length co15 (l0.length : Int) (of_decide_eq_true (by first|(with_reducible assumption)|assumption)) q79 hroom79
       have hr79:=Kd.C_take (m:=((l0.length : Int) : Int).toNat) hC79 (by omega)
       have hy79 : y843.length = ((l0.length : Int) : Int).toNat:=(by rw [Ny843.out,List.length_take];omega)
       rw [← Ny843.out] at hr79
       rw [← hy79] at hcut79
       have HR846:=Aside0.mk hr79
       have HC846:=Aside0.mk (show y843.length ≤ co15 from by omega)
       clear hr79 hC79 hroom79 hi079 hsz79
       have KY79:=Aside0.mk hy79
       clear hy79
       have KL79:=Aside0.mk (show ((l0.length : Int) : Int).toNat ≤ t797.length from by omega)
       replace q79:=eq_true q79
       have q80 : ((l1.length : Int) : Int) ≤ ((t800.length : Int) : Int):=of_decide_eq_true (by first|(with_reducible assumption)|assumption)
       obtain ⟨i080,hi080,_,hsz80,_⟩:=info_parts info57
       have hroom80 : t800.length ≤ co52:=(Kd.R_reads' HO_6.out).2.1
       have hC80 : Kd.C k57 _ Ao52 t800.length t800:=(Kd.R_reads' HO_6.out).2.2
       (try clear hcut51);have hcut80:=cut_to (P:=Tryz.prog) 46 57 .i64 Tryz.underlying46 hi080 Ao52 t800.length co52 (l1.length : Int) (of_decide_eq_true (by first|(with_reducible assumption)|assumption)) q80 hroom80
       have hr80:=Kd.C_take (m:=((l1.length : Int) : Int).toNat) hC80 (by omega)
       have hy80 : y847.length = ((l1.length : Int) : Int).toNat:=(by rw [Ny847.out,List.length_take];omega)
       rw [← Ny847.out] at hr80
       rw [← hy80] at hcut80
       have HR850:=Aside0.mk hr80
       have HC850:=Aside0.mk (show y847.length ≤ co52 from by omega)
       clear hr80 hC80 hroom80 hi080 hsz80
       have KY80:=Aside0.mk hy80
       clear hy80
       have KL80:=Aside0.mk (show ((l1.length : Int) : Int).toNat ≤ t800.length from by omega)
       replace q80:=eq_true q80
       refine start_ (n:=14) (S:=fun w' => True) (ds:=[]) (bl 0 14) (by kernel_rfl) rfl rfl trivial (fun hHeld => ?_);refine with_tabW bursarlaw03_QuantLists.tab16 bursarlaw03_QuantLists.bits16 (fun HT_ HW_ => ?_)
       generalize wc.drew = w78 at HO_5 HO_6 HR806 HR813 HR827 HR831 HB HR846 HR850 hHeld ⊢
       refine pure_ (i:=0) (N:=some 102) (v:=?_) (a':=?_) (bl 1 13) rfl rfl (any_of HT_.out (by kernel_rfl)) (fun _ _ _ h => h) (Or.inl ⟨by rfl,?_⟩) ?_ ?_
       rotate_left;·intro w';go_simp;with_reducible rfl
       rotate_left;·simp only [pu_];rfl
       refine pure_ (i:=1) (N:=some 103) (v:=?_) (a':=?_) (bl 2 12) rfl rfl (any_of HT_.out (by kernel_rfl)) (fun _ _ _ h => h) (Or.inl ⟨by rfl,?_⟩) ?_ ?_
       rotate_left;·intro w';go_simp;with_reducible rfl
       rotate_left;·simp only [pu_];rfl
       refine pure_ (i:=2) (N:=some 104) (v:=?_) (a':=?_) (bl 3 11) rfl rfl (any_of HT_.out (by kernel_rfl)) (fun _ _ _ h => h) (Or.inl ⟨by rfl,?_⟩) ?_ ?_
       rotate_left;·intro w';go_simp;with_reducible rfl
       rotate_left;·simp only [pu_];rfl
       refine pure_ (i:=3) (N:=some 105) (v:=?_) (a':=?_) (bl 4 10) rfl rfl (any_of HT_.out (by kernel_rfl)) (fun _ _ _ h => h) (Or.inl ⟨by rfl,?_⟩) ?_ ?_
       rotate_left;·intro w';go_simp;with_reducible rfl
       rotate_left;·simp only [pu_];rfl
       refine pure_ (i:=4) (N:=some 106) (v:=?_) (a':=?_) (bl 5 9) rfl rfl (any_of HT_.out (by kernel_rfl)) (fun _ _ _ h => h) (Or.inl ⟨by rfl,?_⟩) ?_ ?_
       rotate_left;·intro w';go_simp;with_reducible rfl
       rotate_left;·simp only [pu_];rfl
       refine pure_ (i:=5) (N:=some 107) (v:=?_) (a':=?_) (bl 6 8) rfl rfl (any_of HT_.out (by kernel_rfl)) (fun _ _ _ h => h) (Or.inl ⟨by rfl,?_⟩) ?_ ?_
       rotate_left;·intro w';go_simp;with_reducible rfl
       rotate_left;·simp only [pu_];rfl
       refine pure_ (i:=6) (N:=some 108) (v:=?_) (a':=?_) (bl 7 7) rfl rfl (any_of HT_.out (by kernel_rfl)) (fun _ _ _ h => h) (Or.inl ⟨by rfl,?_⟩) ?_ ?_
       rotate_left;·intro w';go_simp;with_reducible rfl
       rotate_left;·simp only [pu_];rfl
       refine pure_ (i:=7) (N:=some 109) (v:=?_) (a':=?_) (bl 8 6) rfl rfl (any_of HT_.out (by kernel_rfl)) (fun _ _ _ h => h) (Or.inl ⟨by rfl,?_⟩) ?_ ?_
       rotate_left;·intro w';go_simp;with_reducible rfl
       rotate_left;·simp only [pu_];rfl
       refine one_ (i:=8) (N:=some 110) (bl 9 5) rfl rfl (one_of HT_.out (by kernel_rfl)) (by decide) (fun K hK => ?_)
       refine goes_ Tryz.func42 (by kernel_rfl) rfl #[.slice Ao15 y843.length co15,.slice Ao52 y847.length co52] (by rfl) rfl rfl (by (try simp only [List.map_toArray,List.map_cons,List.map_nil]);first|done|rfl|(simp only [List.length_drop,List.length_take];rfl)) ?_
       with_reducible refine (quant_Minus.calls kj47 _ _ y843 _ _ y847 t851 t852 _ ?side1 ?side2 ?side3 ?side4 A75.out (Glob.below hG.toGlob (by repeat (first|(with_reducible first|exact HB.out|apply below_alloc|apply pw_below_drewN|apply below_drew1)|exact HB.out)))).mono ?_
       (case side1 => repeat (first|exact (by repeat (first|(with_reducible exact HR846.out)|(with_reducible refine Kd.C_alloc ?_ _)|(with_reducible refine Kd.C_drewN ?_ _)|(with_reducible refine Kd.C_drew ?_)|exact HR846.out))|(with_reducible refine Kd.C_alloc ?_ _)|(with_reducible refine Kd.C_drewN ?_ _)|(with_reducible refine Kd.C_drew ?_)))
       (case side2 => exact HC846.out)
       (case side3 => repeat (first|exact (by repeat (first|(with_reducible exact HR850.out)|(with_reducible refine Kd.C_alloc ?_ _)|(with_reducible refine Kd.C_drewN ?_ _)|(with_reducible refine Kd.C_drew ?_)|exact HR850.out))|(with_reducible refine Kd.C_alloc ?_ _)|(with_reducible refine Kd.C_drewN ?_ _)|(with_reducible refine Kd.C_drew ?_)))
       (case side4 => exact HC850.out)
       rintro e w81 ⟨v853,rfl,ho0,hb⟩
       refine ⟨_,rfl,?_⟩
       have n0_:=Aside0.mk (Kd.R_elder' (by (with_reducible repeat (first|apply Kd.R_alloc|apply Kd.R_drewN|apply Kd.R_drew));exact HO_5.out) (Kd.R_base ho0) hb)
       have n1_:=Aside0.mk (Kd.R_elder' (by (with_reducible repeat (first|apply Kd.R_alloc|apply Kd.R_drewN|apply Kd.R_drew));exact HO_6.out) (Kd.R_base ho0) hb)
       have n2_:=Aside0.mk (Kd.R_lower (Kd.R_new' (Kd.R_new' ho0 (Kd.R_lt (by (with_reducible repeat (first|apply Kd.R_alloc|apply Kd.R_drewN|apply Kd.R_drew));exact HO_5.out))) (Kd.R_lt (by (with_reducible repeat (first|apply Kd.R_alloc|apply Kd.R_drewN|apply Kd.R_drew));exact HO_6.out))) (below_size (by repeat (first|(with_reducible first|exact HB.out|apply below_alloc|apply pw_below_drewN|apply below_drew1)|exact HB.out))))
       have n3_:=Aside0.mk ((show Kd.C k57 _ Ao15 y803.length y803 from Kd.C_below (by repeat (first|(with_reducible exact HR806.out)|(with_reducible refine Kd.C_alloc ?_ _)|(with_reducible refine Kd.C_drewN ?_ _)|(with_reducible refine Kd.C_drew ?_)|exact HR806.out)) hb))
       have n4_:=Aside0.mk ((show Kd.C k57 _ Ao15 y810.length y810 from Kd.C_below (by repeat (first|(with_reducible exact HR813.out)|(with_reducible refine Kd.C_alloc ?_ _)|(with_reducible refine Kd.C_drewN ?_ _)|(with_reducible refine Kd.C_drew ?_)|exact HR813.out)) hb))
       have n5_:=Aside0.mk ((show Kd.C k57 _ Ao15 y824.length y824 from Kd.C_below (by repeat (first|(with_reducible exact HR827.out)|(with_reducible refine Kd.C_alloc ?_ _)|(with_reducible refine Kd.C_drewN ?_ _)|(with_reducible refine Kd.C_drew ?_)|exact HR827.out)) hb))
       have n6_:=Aside0.mk ((show Kd.C k57 _ Ao52 y828.length y828 from Kd.C_below (by repeat (first|(with_reducible exact HR831.out)|(with_reducible refine Kd.C_alloc ?_ _)|(with_reducible refine Kd.C_drewN ?_ _)|(with_reducible refine Kd.C_drew ?_)|exact HR831.out)) hb))
       have n7_:=Aside0.mk ((show Kd.C k57 _ Ao15 y843.length y843 from Kd.C_below (by repeat (first|(with_reducible exact HR846.out)|(with_reducible refine Kd.C_alloc ?_ _)|(with_reducible refine Kd.C_drewN ?_ _)|(with_reducible refine Kd.C_drew ?_)|exact HR846.out)) hb))
       have n8_:=Aside0.mk ((show Kd.C k57 _ Ao52 y847.length y847 from Kd.C_below (by repeat (first|(with_reducible exact HR850.out)|(with_reducible refine Kd.C_alloc ?_ _)|(with_reducible refine Kd.C_drewN ?_ _)|(with_reducible refine Kd.C_drew ?_)|exact HR850.out)) hb))
       have n9_:=Aside0.mk (below_step (by repeat (first|(with_reducible first|exact HB.out|apply below_alloc|apply pw_below_drewN|apply below_drew1)|exact HB.out)) hb)
       clear HO_5;clear HO_6;clear HR806;clear HR813;clear HR827;clear HR831;clear HR846;clear HR850;clear HB;have HO_5:=n0_;have HO_6:=n1_;have HO854:=n2_;have HR806:=n3_;have HR813:=n4_;have HR827:=n5_;have HR831:=n6_;have HR846:=n7_;have HR850:=n8_;have HB:=n9_;clear n0_ n1_ n2_ n3_ n4_ n5_ n6_ n7_ n8_ n9_;(try clear hb);(try clear hb2);(try clear hk);(try clear hi);(try clear ho0)
       refine hK.out _ _ trivial (fun hHeld => ?_)
       clear hK K
       refine norm_ (a':=?_) ?_ ?_
       rotate_left
       ·show Act.put _ (some 110) _ = _
        simp only [pu_]
        rfl
       refine pure_ (i:=9) (N:=some 101) (v:=?_) (a':=?_) (bl 10 4) rfl rfl (any_of HT_.out (by kernel_rfl)) (fun _ _ _ h => h) (Or.inl ⟨by rfl,?_⟩) ?_ ?_
       rotate_left;·intro w';go_simp;with_reducible rfl
       rotate_left;·simp only [pu_];rfl
       refine pure_ (i:=10) (N:=some 111) (v:=?_) (a':=?_) (bl 11 3) rfl rfl (any_of HT_.out (by kernel_rfl)) (fun _ _ _ h => h) (Or.inl ⟨by rfl,?_⟩) ?_ ?_
       rotate_left;·intro w';go_simp;with_reducible rfl
       rotate_left;·simp only [pu_];rfl
       refine pure_ (i:=11) (N:=some 112) (v:=?_) (a':=?_) (bl 12 2) rfl rfl (any_of HT_.out (by kernel_rfl)) (fun _ _ _ h => h) (Or.inl ⟨by rfl,?_⟩) ?_ ?_
       rotate_left;·intro w';go_simp;with_reducible rfl
       rotate_left;·simp only [pu_];rfl
       refine pure_ (i:=12) (N:=some 8) (v:=?_) (a':=?_) (bl 13 1) rfl rfl (any_of HT_.out (by kernel_rfl)) (fun _ _ _ h => h) (Or.inl ⟨by rfl,?_⟩) ?_ ?_
       rotate_left;·intro w';go_simp;with_reducible rfl
       rotate_left;·simp only [pu_];rfl
       refine pure_ (i:=13) (N:=some 7) (v:=?_) (a':=?_) (bl 14 0) rfl rfl (any_of HT_.out (by kernel_rfl)) (fun _ _ _ h => h) (Or.inl ⟨by rfl,?_⟩) ?_ ?_
       rotate_left;·intro w';go_simp;with_reducible rfl
       rotate_left;·simp only [pu_];rfl
       refine done_ (done_of HT_.out (by kernel_rfl)) ?_
       go_upto_region 18 with (first|((with_reducible refine gate_callee (f:=48) rfl ?_);refine goesL_ (some 116) rfl rfl Tryz.func48 (by kernel_rfl) rfl #[.slice A0 l0.length c0,.slice A1 l1.length c1] rfl (by (try simp only [List.map_toArray,List.map_cons,List.map_nil]);first|done|rfl|(simp only [List.length_drop,List.length_take];rfl)) ?_;(with_reducible refine (bursarref03_Minus.calls kj47 _ _ l0 _ _ l1 t855 t856 _ ?side1 ?side2 ?side3 ?side4 A76.out).mono ?_);(case side1 => repeat (first|exact (Kd.C_below HR0.out HB.out)|(with_reducible refine Kd.C_alloc ?_ _)|(with_reducible refine Kd.C_drewN ?_ _)|(with_reducible refine Kd.C_drew ?_)));(case side2 => exact HC0.out);(case side3 => repeat (first|exact (Kd.C_below HR1.out HB.out)|(with_reducible refine Kd.C_alloc ?_ _)|(with_reducible refine Kd.C_drewN ?_ _)|(with_reducible refine Kd.C_drew ?_)));(case side4 => exact HC1.out);rintro e w82 ⟨v857,rfl,ho0,hb⟩;refine ⟨_,rfl,?_⟩;have n0_:=Aside0.mk (Kd.R_elder' (by (with_reducible repeat (first|apply Kd.R_alloc|apply Kd.R_drewN|apply Kd.R_drew));exact HO_5.out) (Kd.R_base ho0) hb);have n1_:=Aside0.mk (Kd.R_elder' (by (with_reducible repeat (first|apply Kd.R_alloc|apply Kd.R_drewN|apply Kd.R_drew));exact HO_6.out) (Kd.R_base ho0) hb);have n2_:=Aside0.mk (Kd.R_elder' (by (with_reducible repeat (first|apply Kd.R_alloc|apply Kd.R_drewN|apply Kd.R_drew));exact HO854.out) (Kd.R_base ho0) hb);have n3_:=Aside0.mk (Kd.R_lower (Kd.R_new' (Kd.R_new' (Kd.R_new' ho0 (Kd.R_lt (by (with_reducible repeat (first|apply Kd.R_alloc|apply Kd.R_drewN|apply Kd.R_drew));exact HO_5.out))) (Kd.R_lt (by (with_reducible repeat (first|apply Kd.R_alloc|apply Kd.R_drewN|apply Kd.R_drew));exact HO_6.out))) (Kd.R_lt (by (with_reducible repeat (first|apply Kd.R_alloc|apply Kd.R_drewN|apply Kd.R_drew));exact HO854.out))) (below_size (by repeat (first|(with_reducible first|exact HB.out|apply below_alloc|apply pw_below_drewN|apply below_drew1)|exact HB.out))));have n4_:=Aside0.mk ((show Kd.C k57 _ Ao15 y803.length y803 from Kd.C_below (by repeat (first|(with_reducible exact HR806.out)|(with_reducible refine Kd.C_alloc ?_ _)|(with_reducible refine Kd.C_drewN ?_ _)|(with_reducible refine Kd.C_drew ?_)|exact HR806.out)) hb));have n5_:=Aside0.mk ((show Kd.C k57 _ Ao15 y810.length y810 from Kd.C_below (by repeat (first|(with_reducible exact HR813.out)|(with_reducible refine Kd.C_alloc ?_ _)|(with_reducible refine Kd.C_drewN ?_ _)|(with_reducible refine Kd.C_drew ?_)|exact HR813.out)) hb));have n6_:=Aside0.mk ((show Kd.C k57 _ Ao15 y824.length y824 from Kd.C_below (by repeat (first|(with_reducible exact HR827.out)|(with_reducible refine Kd.C_alloc ?_ _)|(with_reducible refine Kd.C_drewN ?_ _)|(with_reducible refine Kd.C_drew ?_)|exact HR827.out)) hb));have n7_:=Aside0.mk ((show Kd.C k57 _ Ao52 y828.length y828 from Kd.C_below (by repeat (first|(with_reducible exact HR831.out)|(with_reducible refine Kd.C_alloc ?_ _)|(with_reducible refine Kd.C_drewN ?_ _)|(with_reducible refine Kd.C_drew ?_)|exact HR831.out)) hb));have n8_:=Aside0.mk ((show Kd.C k57 _ Ao15 y843.length y843 from Kd.C_below (by repeat (first|(with_reducible exact HR846.out)|(with_reducible refine Kd.C_alloc ?_ _)|(with_reducible refine Kd.C_drewN ?_ _)|(with_reducible refine Kd.C_drew ?_)|exact HR846.out)) hb));have n9_:=Aside0.mk ((show Kd.C k57 _ Ao52 y847.length y847 from Kd.C_below (by repeat (first|(with_reducible exact HR850.out)|(with_reducible refine Kd.C_alloc ?_ _)|(with_reducible refine Kd.C_drewN ?_ _)|(with_reducible refine Kd.C_drew ?_)|exact HR850.out)) hb));have n10_:=Aside0.mk (below_step (by repeat (first|(with_reducible first|exact HB.out|apply below_alloc|apply pw_below_drewN|apply below_drew1)|exact HB.out)) hb);clear HO_5;clear HO_6;clear HO854;clear HR806;clear HR813;clear HR827;clear HR831;clear HR846;clear HR850;clear HB;have HO_5:=n0_;have HO_6:=n1_;have HO854:=n2_;have HO858:=n3_;have HR806:=n4_;have HR813:=n5_;have HR827:=n6_;have HR831:=n7_;have HR846:=n8_;have HR850:=n9_;have HB:=n10_;clear n0_ n1_ n2_ n3_ n4_ n5_ n6_ n7_ n8_ n9_ n10_;(try clear hb);(try clear hb2);(try clear hk);(try clear hi);(try clear ho0)))
       (try simp only [Act.put,List.setIfInBounds_toArray,List.set_cons_zero,List.set_cons_succ])
       go_cut [139] (fun v139 wc => ∃ (kq : Nat) (x139_76 : Bool),v139 = .bool x139_76 ∧ Aside0 (bursarlaw03_QuantLists.j3 kq l0 l1 t797 t800 x139_76 = some r) ∧ Aside0 (kq ≤ kj47) ∧ Aside0 (Kd.R k57 57 wc w.heap.size (fun k_ => some k_ ≠ ((.slice Ao52 t800.length co52) : Value).ownBlock) (.slice Ao15 t797.length co15) t797) ∧ Aside0 (Kd.R k57 57 wc w.heap.size (fun k_ => some k_ ≠ ((.slice Ao15 t797.length co15) : Value).ownBlock) (.slice Ao52 t800.length co52) t800) ∧ Aside0 (Kd.C k57 wc Ao15 y803.length y803) ∧ Aside0 (Kd.C k57 wc Ao15 y810.length y810) ∧ Aside0 (Kd.C k57 wc Ao15 y824.length y824) ∧ Aside0 (Kd.C k57 wc Ao52 y828.length y828) ∧ Aside0 (Kd.C k57 wc Ao15 y843.length y843) ∧ Aside0 (Kd.C k57 wc Ao52 y847.length y847) ∧ Aside0 (Below w.heap.size w wc))
       case first => as_aux_lemma =>
        have H:=HC77.out
        clear HC77
        by_cases c83 : t852 = t856
        rotate_left
        ·rw [if_neg c83] at H
         have c83b0 : (t852 == t856) = false:=beq_eq_false_iff_ne.mpr c83
         have c83b1 : (t852 != t856) = true:=bne_iff_ne.mpr c83
         (first|rw [c83b0]|(simp only [i64_w,i32_w];rw [c83b0])|skip)
         have H':=Aside0.mk H
         clear H
         go_wp2
         go_meet
         case rel => exact ⟨_,(true),(by first|rfl|(simp;done)|(simp [*];done)|(simp;rw [Bool.eq_iff_iff];simp;done)|(rw [Bool.eq_iff_iff];simp;done)),H',⟨by have:=HJ9.out;have:=HJ27.out;have:=HJ47.out;first|omega|exact Nat.le_refl _⟩,⟨by (with_reducible repeat (first|apply Kd.R_alloc|apply Kd.R_drewN|apply Kd.R_drew));exact Kd.R_mono HO_5.out (fun _ hk => hk.1.1)⟩,⟨by (with_reducible repeat (first|apply Kd.R_alloc|apply Kd.R_drewN|apply Kd.R_drew));exact Kd.R_mono HO_6.out (fun _ hk => hk.1.1)⟩,⟨by repeat (first|(with_reducible exact HR806.out)|(with_reducible refine Kd.C_alloc ?_ _)|(with_reducible refine Kd.C_drewN ?_ _)|(with_reducible refine Kd.C_drew ?_)|exact HR806.out)⟩,⟨by repeat (first|(with_reducible exact HR813.out)|(with_reducible refine Kd.C_alloc ?_ _)|(with_reducible refine Kd.C_drewN ?_ _)|(with_reducible refine Kd.C_drew ?_)|exact HR813.out)⟩,⟨by repeat (first|(with_reducible exact HR827.out)|(with_reducible refine Kd.C_alloc ?_ _)|(with_reducible refine Kd.C_drewN ?_ _)|(with_reducible refine Kd.C_drew ?_)|exact HR827.out)⟩,⟨by repeat (first|(with_reducible exact HR831.out)|(with_reducible refine Kd.C_alloc ?_ _)|(with_reducible refine Kd.C_drewN ?_ _)|(with_reducible refine Kd.C_drew ?_)|exact HR831.out)⟩,⟨by repeat (first|(with_reducible exact HR846.out)|(with_reducible refine Kd.C_alloc ?_ _)|(with_reducible refine Kd.C_drewN ?_ _)|(with_reducible refine Kd.C_drew ?_)|exact HR846.out)⟩,⟨by repeat (first|(with_reducible exact HR850.out)|(with_reducible refine Kd.C_alloc ?_ _)|(with_reducible refine Kd.C_drewN ?_ _)|(with_reducible refine Kd.C_drew ?_)|exact HR850.out)⟩,⟨by repeat (first|(with_reducible first|exact HB.out|apply below_alloc|apply pw_below_drewN|apply below_drew1)|exact HB.out)⟩⟩
        rw [if_pos c83] at H
        have c83b0 : (t852 == t856) = true:=beq_iff_eq.mpr c83
        have c83b1 : (t852 != t856) = false:=bne_eq_false_iff_eq.mpr c83
        clear c83
        (first|rw [c83b0]|(simp only [i64_w,i32_w];rw [c83b0])|skip)
        replace H:=Option.bind_eq_some_iff.mp H
        obtain ⟨t859,A840,H⟩:=H
        replace H : (if t859 = true then ((bursarlaw03_untouched.f kj47 t797 l0).bind fun t860 => (if t860 = true then ((bursarlaw03_untouched.f kj47 t800 l1).bind fun t861 => (bursarlaw03_QuantLists.j3 kj47 l0 l1 t797 t800 (!t861))) else (bursarlaw03_QuantLists.j3 kj47 l0 l1 t797 t800 true))) else (bursarlaw03_QuantLists.j3 kj47 l0 l1 t797 t800 true)) = some r:=H
        have A84:=Aside0.mk A840
        clear A840
        by_cases c85 : t859 = true
        rotate_left
        ·replace c85:=Bool.eq_false_iff.mpr c85
         subst c85
         have H1 : (bursarlaw03_QuantLists.j3 kj47 l0 l1 t797 t800 true) = some r:=by rw [if_neg (show ¬ (false = true) by decide)] at H;exact H
         clear H;have H:=H1;clear H1
         have H':=Aside0.mk H
         clear H
         obtain ⟨Ao96,co96,eo96⟩:=Kd.R_slice HO854.out
         subst eo96
         obtain ⟨Ao97,co97,eo97⟩:=Kd.R_slice HO858.out
         subst eo97
         go_wp2_with (first|(go_at_call 39;(with_reducible refine (bursarlaw03_same.calls kj47 _ _ t851 _ _ t855 false _ ?side1 ?side2 ?side3 ?side4 A84.out).mono ?_);(case side1 => repeat (first|exact (Kd.R_reads' HO854.out).2.2|(with_reducible refine Kd.C_alloc ?_ _)|(with_reducible refine Kd.C_drewN ?_ _)|(with_reducible refine Kd.C_drew ?_)));(case side2 => exact (Kd.R_reads' HO854.out).2.1);(case side3 => repeat (first|exact (Kd.R_reads' HO858.out).2.2|(with_reducible refine Kd.C_alloc ?_ _)|(with_reducible refine Kd.C_drewN ?_ _)|(with_reducible refine Kd.C_drew ?_)));(case side4 => exact (Kd.R_reads' HO858.out).2.1);rintro e w' ⟨rfl,⟨nd,rfl⟩⟩))
         go_meet
         case rel => exact ⟨_,(true),(by first|rfl|(simp;done)|(simp [*];done)|(simp;rw [Bool.eq_iff_iff];simp;done)|(rw [Bool.eq_iff_iff];simp;done)),H',⟨by have:=HJ9.out;have:=HJ27.out;have:=HJ47.out;first|omega|exact Nat.le_refl _⟩,⟨by (with_reducible repeat (first|apply Kd.R_alloc|apply Kd.R_drewN|apply Kd.R_drew));exact Kd.R_mono HO_5.out (fun _ hk => hk.1.1)⟩,⟨by (with_reducible repeat (first|apply Kd.R_alloc|apply Kd.R_drewN|apply Kd.R_drew));exact Kd.R_mono HO_6.out (fun _ hk => hk.1.1)⟩,⟨by repeat (first|(with_reducible exact HR806.out)|(with_reducible refine Kd.C_alloc ?_ _)|(with_reducible refine Kd.C_drewN ?_ _)|(with_reducible refine Kd.C_drew ?_)|exact HR806.out)⟩,⟨by repeat (first|(with_reducible exact HR813.out)|(with_reducible refine Kd.C_alloc ?_ _)|(with_reducible refine Kd.C_drewN ?_ _)|(with_reducible refine Kd.C_drew ?_)|exact HR813.out)⟩,⟨by repeat (first|(with_reducible exact HR827.out)|(with_reducible refine Kd.C_alloc ?_ _)|(with_reducible refine Kd.C_drewN ?_ _)|(with_reducible refine Kd.C_drew ?_)|exact HR827.out)⟩,⟨by repeat (first|(with_reducible exact HR831.out)|(with_reducible refine Kd.C_alloc ?_ _)|(with_reducible refine Kd.C_drewN ?_ _)|(with_reducible refine Kd.C_drew ?_)|exact HR831.out)⟩,⟨by repeat (first|(with_reducible exact HR846.out)|(with_reducible refine Kd.C_alloc ?_ _)|(with_reducible refine Kd.C_drewN ?_ _)|(with_reducible refine Kd.C_drew ?_)|exact HR846.out)⟩,⟨by repeat (first|(with_reducible exact HR850.out)|(with_reducible refine Kd.C_alloc ?_ _)|(with_reducible refine Kd.C_drewN ?_ _)|(with_reducible refine Kd.C_drew ?_)|exact HR850.out)⟩,⟨by repeat (first|(with_reducible first|exact HB.out|apply below_alloc|apply pw_below_drewN|apply below_drew1)|exact HB.out)⟩⟩
        subst c85
        have H1 : ((bursarlaw03_untouched.f kj47 t797 l0).bind fun t860 => (if t860 = true then ((bursarlaw03_untouched.f kj47 t800 l1).bind fun t861 => (bursarlaw03_QuantLists.j3 kj47 l0 l1 t797 t800 (!t861))) else (bursarlaw03_QuantLists.j3 kj47 l0 l1 t797 t800 true))) = some r:=by rw [if_pos rfl] at H;exact H
        clear H;have H:=H1;clear H1
        replace H:=Option.bind_eq_some_iff.mp H
        obtain ⟨t860,A860,H⟩:=H
        replace H : (if t860 = true then ((bursarlaw03_untouched.f kj47 t800 l1).bind fun t861 => (bursarlaw03_QuantLists.j3 kj47 l0 l1 t797 t800 (!t861))) else (bursarlaw03_QuantLists.j3 kj47 l0 l1 t797 t800 true)) = some r:=H
        have A86:=Aside0.mk A860
        clear A860
        by_cases c87 : t860 = true
        rotate_left
        ·replace c87:=Bool.eq_false_iff.mpr c87
         subst c87
         have H1 : (bursarlaw03_QuantLists.j3 kj47 l0 l1 t797 t800 true) = some r:=by rw [if_neg (show ¬ (false = true) by decide)] at H;exact H
         clear H;have H:=H1;clear H1
         have H':=Aside0.mk H
         clear H
         obtain ⟨Ao93,co93,eo93⟩:=Kd.R_slice HO854.out
         subst eo93
         obtain ⟨Ao94,co94,eo94⟩:=Kd.R_slice HO858.out
         subst eo94
         go_wp2_with (first|(go_at_call 39;(with_reducible refine (bursarlaw03_same.calls kj47 _ _ t851 _ _ t855 true _ ?side1 ?side2 ?side3 ?side4 A84.out).mono ?_);(case side1 => repeat (first|exact (Kd.R_reads' HO854.out).2.2|(with_reducible refine Kd.C_alloc ?_ _)|(with_reducible refine Kd.C_drewN ?_ _)|(with_reducible refine Kd.C_drew ?_)));(case side2 => exact (Kd.R_reads' HO854.out).2.1);(case side3 => repeat (first|exact (Kd.R_reads' HO858.out).2.2|(with_reducible refine Kd.C_alloc ?_ _)|(with_reducible refine Kd.C_drewN ?_ _)|(with_reducible refine Kd.C_drew ?_)));(case side4 => exact (Kd.R_reads' HO858.out).2.1);rintro e w' ⟨rfl,⟨nd,rfl⟩⟩)|(go_at_call 32;(with_reducible refine (bursarlaw03_untouched.calls kj47 _ _ t797 _ _ l0 false _ ?side1 ?side2 ?side3 ?side4 A86.out (GlobM.below hG (by repeat (first|(with_reducible first|exact HB.out|apply below_alloc|apply pw_below_drewN|apply below_drew1)|exact HB.out)))).mono ?_);(case side1 => repeat (first|exact (Kd.R_reads' HO_5.out).2.2|(with_reducible refine Kd.C_alloc ?_ _)|(with_reducible refine Kd.C_drewN ?_ _)|(with_reducible refine Kd.C_drew ?_)));(case side2 => exact (Kd.R_reads' HO_5.out).2.1);(case side3 => repeat (first|exact (Kd.C_below HR0.out (by repeat (first|(with_reducible first|exact HB.out|apply below_alloc|apply pw_below_drewN|apply below_drew1)|exact HB.out)))|(with_reducible refine Kd.C_alloc ?_ _)|(with_reducible refine Kd.C_drewN ?_ _)|(with_reducible refine Kd.C_drew ?_)));(case side4 => exact HC0.out);rintro e w95 ⟨rfl,hb⟩;have n0_:=Aside0.mk (Kd.R_below (by (with_reducible repeat (first|apply Kd.R_alloc|apply Kd.R_drewN|apply Kd.R_drew));exact HO_5.out) hb);have n1_:=Aside0.mk (Kd.R_below (by (with_reducible repeat (first|apply Kd.R_alloc|apply Kd.R_drewN|apply Kd.R_drew));exact HO_6.out) hb);have n2_:=Aside0.mk (Kd.R_below (by (with_reducible repeat (first|apply Kd.R_alloc|apply Kd.R_drewN|apply Kd.R_drew));exact HO854.out) hb);have n3_:=Aside0.mk (Kd.R_below (by (with_reducible repeat (first|apply Kd.R_alloc|apply Kd.R_drewN|apply Kd.R_drew));exact HO858.out) hb);have n4_:=Aside0.mk ((show Kd.C k57 _ Ao15 y803.length y803 from Kd.C_below (by repeat (first|(with_reducible exact HR806.out)|(with_reducible refine Kd.C_alloc ?_ _)|(with_reducible refine Kd.C_drewN ?_ _)|(with_reducible refine Kd.C_drew ?_)|exact HR806.out)) hb));have n5_:=Aside0.mk ((show Kd.C k57 _ Ao15 y810.length y810 from Kd.C_below (by repeat (first|(with_reducible exact HR813.out)|(with_reducible refine Kd.C_alloc ?_ _)|(with_reducible refine Kd.C_drewN ?_ _)|(with_reducible refine Kd.C_drew ?_)|exact HR813.out)) hb));have n6_:=Aside0.mk ((show Kd.C k57 _ Ao15 y824.length y824 from Kd.C_below (by repeat (first|(with_reducible exact HR827.out)|(with_reducible refine Kd.C_alloc ?_ _)|(with_reducible refine Kd.C_drewN ?_ _)|(with_reducible refine Kd.C_drew ?_)|exact HR827.out)) hb));have n7_:=Aside0.mk ((show Kd.C k57 _ Ao52 y828.length y828 from Kd.C_below (by repeat (first|(with_reducible exact HR831.out)|(with_reducible refine Kd.C_alloc ?_ _)|(with_reducible refine Kd.C_drewN ?_ _)|(with_reducible refine Kd.C_drew ?_)|exact HR831.out)) hb));have n8_:=Aside0.mk ((show Kd.C k57 _ Ao15 y843.length y843 from Kd.C_below (by repeat (first|(with_reducible exact HR846.out)|(with_reducible refine Kd.C_alloc ?_ _)|(with_reducible refine Kd.C_drewN ?_ _)|(with_reducible refine Kd.C_drew ?_)|exact HR846.out)) hb));have n9_:=Aside0.mk ((show Kd.C k57 _ Ao52 y847.length y847 from Kd.C_below (by repeat (first|(with_reducible exact HR850.out)|(with_reducible refine Kd.C_alloc ?_ _)|(with_reducible refine Kd.C_drewN ?_ _)|(with_reducible refine Kd.C_drew ?_)|exact HR850.out)) hb));have n10_:=Aside0.mk (below_step (by repeat (first|(with_reducible first|exact HB.out|apply below_alloc|apply pw_below_drewN|apply below_drew1)|exact HB.out)) hb);clear HO_5;clear HO_6;clear HO854;clear HO858;clear HR806;clear HR813;clear HR827;clear HR831;clear HR846;clear HR850;clear HB;have HO_5:=n0_;have HO_6:=n1_;have HO854:=n2_;have HO858:=n3_;have HR806:=n4_;have HR813:=n5_;have HR827:=n6_;have HR831:=n7_;have HR846:=n8_;have HR850:=n9_;have HB:=n10_;clear n0_ n1_ n2_ n3_ n4_ n5_ n6_ n7_ n8_ n9_ n10_;(try clear hb);(try clear hb2);(try clear hk);(try clear hi)))
         go_meet
         case rel => exact ⟨_,(true),(by first|rfl|(simp;done)|(simp [*];done)|(simp;rw [Bool.eq_iff_iff];simp;done)|(rw [Bool.eq_iff_iff];simp;done)),H',⟨by have:=HJ9.out;have:=HJ27.out;have:=HJ47.out;first|omega|exact Nat.le_refl _⟩,⟨by (with_reducible repeat (first|apply Kd.R_alloc|apply Kd.R_drewN|apply Kd.R_drew));exact Kd.R_mono HO_5.out (fun _ hk => hk.1.1)⟩,⟨by (with_reducible repeat (first|apply Kd.R_alloc|apply Kd.R_drewN|apply Kd.R_drew));exact Kd.R_mono HO_6.out (fun _ hk => hk.1.1)⟩,⟨by repeat (first|(with_reducible exact HR806.out)|(with_reducible refine Kd.C_alloc ?_ _)|(with_reducible refine Kd.C_drewN ?_ _)|(with_reducible refine Kd.C_drew ?_)|exact HR806.out)⟩,⟨by repeat (first|(with_reducible exact HR813.out)|(with_reducible refine Kd.C_alloc ?_ _)|(with_reducible refine Kd.C_drewN ?_ _)|(with_reducible refine Kd.C_drew ?_)|exact HR813.out)⟩,⟨by repeat (first|(with_reducible exact HR827.out)|(with_reducible refine Kd.C_alloc ?_ _)|(with_reducible refine Kd.C_drewN ?_ _)|(with_reducible refine Kd.C_drew ?_)|exact HR827.out)⟩,⟨by repeat (first|(with_reducible exact HR831.out)|(with_reducible refine Kd.C_alloc ?_ _)|(with_reducible refine Kd.C_drewN ?_ _)|(with_reducible refine Kd.C_drew ?_)|exact HR831.out)⟩,⟨by repeat (first|(with_reducible exact HR846.out)|(with_reducible refine Kd.C_alloc ?_ _)|(with_reducible refine Kd.C_drewN ?_ _)|(with_reducible refine Kd.C_drew ?_)|exact HR846.out)⟩,⟨by repeat (first|(with_reducible exact HR850.out)|(with_reducible refine Kd.C_alloc ?_ _)|(with_reducible refine Kd.C_drewN ?_ _)|(with_reducible refine Kd.C_drew ?_)|exact HR850.out)⟩,⟨by repeat (first|(with_reducible first|exact HB.out|apply below_alloc|apply pw_below_drewN|apply below_drew1)|exact HB.out)⟩⟩
        subst c87
        have H1 : ((bursarlaw03_untouched.f kj47 t800 l1).bind fun t861 => (bursarlaw03_QuantLists.j3 kj47 l0 l1 t797 t800 (!t861))) = some r:=by rw [if_pos rfl] at H;exact H
        clear H;have H:=H1;clear H1
        replace H:=Option.bind_eq_some_iff.mp H
        obtain ⟨t861,A880,H⟩:=H
        replace H : (bursarlaw03_QuantLists.j3 kj47 l0 l1 t797 t800 (!t861)) = some r:=H
        have A88:=Aside0.mk A880
        clear A880
        have H':=Aside0.mk H
        clear H
        obtain ⟨Ao89,co89,eo89⟩:=Kd.R_slice HO854.out
        subst eo89
        obtain ⟨Ao90,co90,eo90⟩:=Kd.R_slice HO858.out
        subst eo90
        go_wp2_with (first|(go_at_call 39;(with_reducible refine (bursarlaw03_same.calls kj47 _ _ t851 _ _ t855 true _ ?side1 ?side2 ?side3 ?side4 A84.out).mono ?_);(case side1 => repeat (first|exact (Kd.R_reads' HO854.out).2.2|(with_reducible refine Kd.C_alloc ?_ _)|(with_reducible refine Kd.C_drewN ?_ _)|(with_reducible refine Kd.C_drew ?_)));(case side2 => exact (Kd.R_reads' HO854.out).2.1);(case side3 => repeat (first|exact (Kd.R_reads' HO858.out).2.2|(with_reducible refine Kd.C_alloc ?_ _)|(with_reducible refine Kd.C_drewN ?_ _)|(with_reducible refine Kd.C_drew ?_)));(case side4 => exact (Kd.R_reads' HO858.out).2.1);rintro e w' ⟨rfl,⟨nd,rfl⟩⟩)|(go_at_call 32;(with_reducible refine (bursarlaw03_untouched.calls kj47 _ _ t797 _ _ l0 true _ ?side1 ?side2 ?side3 ?side4 A86.out (GlobM.below hG (by repeat (first|(with_reducible first|exact HB.out|apply below_alloc|apply pw_below_drewN|apply below_drew1)|exact HB.out)))).mono ?_);(case side1 => repeat (first|exact (Kd.R_reads' HO_5.out).2.2|(with_reducible refine Kd.C_alloc ?_ _)|(with_reducible refine Kd.C_drewN ?_ _)|(with_reducible refine Kd.C_drew ?_)));(case side2 => exact (Kd.R_reads' HO_5.out).2.1);(case side3 => repeat (first|exact (Kd.C_below HR0.out (by repeat (first|(with_reducible first|exact HB.out|apply below_alloc|apply pw_below_drewN|apply below_drew1)|exact HB.out)))|(with_reducible refine Kd.C_alloc ?_ _)|(with_reducible refine Kd.C_drewN ?_ _)|(with_reducible refine Kd.C_drew ?_)));(case side4 => exact HC0.out);rintro e w91 ⟨rfl,hb⟩;have n0_:=Aside0.mk (Kd.R_below (by (with_reducible repeat (first|apply Kd.R_alloc|apply Kd.R_drewN|apply Kd.R_drew));exact HO_5.out) hb);have n1_:=Aside0.mk (Kd.R_below (by (with_reducible repeat (first|apply Kd.R_alloc|apply Kd.R_drewN|apply Kd.R_drew));exact HO_6.out) hb);have n2_:=Aside0.mk (Kd.R_below (by (with_reducible repeat (first|apply Kd.R_alloc|apply Kd.R_drewN|apply Kd.R_drew));exact HO854.out) hb);have n3_:=Aside0.mk (Kd.R_below (by (with_reducible repeat (first|apply Kd.R_alloc|apply Kd.R_drewN|apply Kd.R_drew));exact HO858.out) hb);have n4_:=Aside0.mk ((show Kd.C k57 _ Ao15 y803.length y803 from Kd.C_below (by repeat (first|(with_reducible exact HR806.out)|(with_reducible refine Kd.C_alloc ?_ _)|(with_reducible refine Kd.C_drewN ?_ _)|(with_reducible refine Kd.C_drew ?_)|exact HR806.out)) hb));have n5_:=Aside0.mk ((show Kd.C k57 _ Ao15 y810.length y810 from Kd.C_below (by repeat (first|(with_reducible exact HR813.out)|(with_reducible refine Kd.C_alloc ?_ _)|(with_reducible refine Kd.C_drewN ?_ _)|(with_reducible refine Kd.C_drew ?_)|exact HR813.out)) hb));have n6_:=Aside0.mk ((show Kd.C k57 _ Ao15 y824.length y824 from Kd.C_below (by repeat (first|(with_reducible exact HR827.out)|(with_reducible refine Kd.C_alloc ?_ _)|(with_reducible refine Kd.C_drewN ?_ _)|(with_reducible refine Kd.C_drew ?_)|exact HR827.out)) hb));have n7_:=Aside0.mk ((show Kd.C k57 _ Ao52 y828.length y828 from Kd.C_below (by repeat (first|(with_reducible exact HR831.out)|(with_reducible refine Kd.C_alloc ?_ _)|(with_reducible refine Kd.C_drewN ?_ _)|(with_reducible refine Kd.C_drew ?_)|exact HR831.out)) hb));have n8_:=Aside0.mk ((show Kd.C k57 _ Ao15 y843.length y843 from Kd.C_below (by repeat (first|(with_reducible exact HR846.out)|(with_reducible refine Kd.C_alloc ?_ _)|(with_reducible refine Kd.C_drewN ?_ _)|(with_reducible refine Kd.C_drew ?_)|exact HR846.out)) hb));have n9_:=Aside0.mk ((show Kd.C k57 _ Ao52 y847.length y847 from Kd.C_below (by repeat (first|(with_reducible exact HR850.out)|(with_reducible refine Kd.C_alloc ?_ _)|(with_reducible refine Kd.C_drewN ?_ _)|(with_reducible refine Kd.C_drew ?_)|exact HR850.out)) hb));have n10_:=Aside0.mk (below_step (by repeat (first|(with_reducible first|exact HB.out|apply below_alloc|apply pw_below_drewN|apply below_drew1)|exact HB.out)) hb);clear HO_5;clear HO_6;clear HO854;clear HO858;clear HR806;clear HR813;clear HR827;clear HR831;clear HR846;clear HR850;clear HB;have HO_5:=n0_;have HO_6:=n1_;have HO854:=n2_;have HO858:=n3_;have HR806:=n4_;have HR813:=n5_;have HR827:=n6_;have HR831:=n7_;have HR846:=n8_;have HR850:=n9_;have HB:=n10_;clear n0_ n1_ n2_ n3_ n4_ n5_ n6_ n7_ n8_ n9_ n10_;(try clear hb);(try clear hb2);(try clear hk);(try clear hi))|(go_at_call 32;(with_reducible refine (bursarlaw03_untouched.calls kj47 _ _ t800 _ _ l1 t861 _ ?side1 ?side2 ?side3 ?side4 A88.out (GlobM.below hG (by repeat (first|(with_reducible first|exact HB.out|apply below_alloc|apply pw_below_drewN|apply below_drew1)|exact HB.out)))).mono ?_);(case side1 => repeat (first|exact (Kd.R_reads' HO_6.out).2.2|(with_reducible refine Kd.C_alloc ?_ _)|(with_reducible refine Kd.C_drewN ?_ _)|(with_reducible refine Kd.C_drew ?_)));(case side2 => exact (Kd.R_reads' HO_6.out).2.1);(case side3 => repeat (first|exact (Kd.C_below HR1.out HB.out)|(with_reducible refine Kd.C_alloc ?_ _)|(with_reducible refine Kd.C_drewN ?_ _)|(with_reducible refine Kd.C_drew ?_)));(case side4 => exact HC1.out);rintro e w92 ⟨rfl,hb⟩;have n0_:=Aside0.mk (Kd.R_below (by (with_reducible repeat (first|apply Kd.R_alloc|apply Kd.R_drewN|apply Kd.R_drew));exact HO_5.out) hb);have n1_:=Aside0.mk (Kd.R_below (by (with_reducible repeat (first|apply Kd.R_alloc|apply Kd.R_drewN|apply Kd.R_drew));exact HO_6.out) hb);have n2_:=Aside0.mk (Kd.R_below (by (with_reducible repeat (first|apply Kd.R_alloc|apply Kd.R_drewN|apply Kd.R_drew));exact HO854.out) hb);have n3_:=Aside0.mk (Kd.R_below (by (with_reducible repeat (first|apply Kd.R_alloc|apply Kd.R_drewN|apply Kd.R_drew));exact HO858.out) hb);have n4_:=Aside0.mk ((show Kd.C k57 _ Ao15 y803.length y803 from Kd.C_below (by repeat (first|(with_reducible exact HR806.out)|(with_reducible refine Kd.C_alloc ?_ _)|(with_reducible refine Kd.C_drewN ?_ _)|(with_reducible refine Kd.C_drew ?_)|exact HR806.out)) hb));have n5_:=Aside0.mk ((show Kd.C k57 _ Ao15 y810.length y810 from Kd.C_below (by repeat (first|(with_reducible exact HR813.out)|(with_reducible refine Kd.C_alloc ?_ _)|(with_reducible refine Kd.C_drewN ?_ _)|(with_reducible refine Kd.C_drew ?_)|exact HR813.out)) hb));have n6_:=Aside0.mk ((show Kd.C k57 _ Ao15 y824.length y824 from Kd.C_below (by repeat (first|(with_reducible exact HR827.out)|(with_reducible refine Kd.C_alloc ?_ _)|(with_reducible refine Kd.C_drewN ?_ _)|(with_reducible refine Kd.C_drew ?_)|exact HR827.out)) hb));have n7_:=Aside0.mk ((show Kd.C k57 _ Ao52 y828.length y828 from Kd.C_below (by repeat (first|(with_reducible exact HR831.out)|(with_reducible refine Kd.C_alloc ?_ _)|(with_reducible refine Kd.C_drewN ?_ _)|(with_reducible refine Kd.C_drew ?_)|exact HR831.out)) hb));have n8_:=Aside0.mk ((show Kd.C k57 _ Ao15 y843.length y843 from Kd.C_below (by repeat (first|(with_reducible exact HR846.out)|(with_reducible refine Kd.C_alloc ?_ _)|(with_reducible refine Kd.C_drewN ?_ _)|(with_reducible refine Kd.C_drew ?_)|exact HR846.out)) hb));have n9_:=Aside0.mk ((show Kd.C k57 _ Ao52 y847.length y847 from Kd.C_below (by repeat (first|(with_reducible exact HR850.out)|(with_reducible refine Kd.C_alloc ?_ _)|(with_reducible refine Kd.C_drewN ?_ _)|(with_reducible refine Kd.C_drew ?_)|exact HR850.out)) hb));have n10_:=Aside0.mk (below_step (by repeat (first|(with_reducible first|exact HB.out|apply below_alloc|apply pw_below_drewN|apply below_drew1)|exact HB.out)) hb);clear HO_5;clear HO_6;clear HO854;clear HO858;clear HR806;clear HR813;clear HR827;clear HR831;clear HR846;clear HR850;clear HB;have HO_5:=n0_;have HO_6:=n1_;have HO854:=n2_;have HO858:=n3_;have HR806:=n4_;have HR813:=n5_;have HR827:=n6_;have HR831:=n7_;have HR846:=n8_;have HR850:=n9_;have HB:=n10_;clear n0_ n1_ n2_ n3_ n4_ n5_ n6_ n7_ n8_ n9_ n10_;(try clear hb);(try clear hb2);(try clear hk);(try clear hi)))
        go_meet
        case rel => exact ⟨_,(!t861),(by first|rfl|(simp;done)|(simp [*];done)|(simp;rw [Bool.eq_iff_iff];simp;done)|(rw [Bool.eq_iff_iff];simp;done)),H',⟨by have:=HJ9.out;have:=HJ27.out;have:=HJ47.out;first|omega|exact Nat.le_refl _⟩,⟨by (with_reducible repeat (first|apply Kd.R_alloc|apply Kd.R_drewN|apply Kd.R_drew));exact Kd.R_mono HO_5.out (fun _ hk => hk.1.1)⟩,⟨by (with_reducible repeat (first|apply Kd.R_alloc|apply Kd.R_drewN|apply Kd.R_drew));exact Kd.R_mono HO_6.out (fun _ hk => hk.1.1)⟩,⟨by repeat (first|(with_reducible exact HR806.out)|(with_reducible refine Kd.C_alloc ?_ _)|(with_reducible refine Kd.C_drewN ?_ _)|(with_reducible refine Kd.C_drew ?_)|exact HR806.out)⟩,⟨by repeat (first|(with_reducible exact HR813.out)|(with_reducible refine Kd.C_alloc ?_ _)|(with_reducible refine Kd.C_drewN ?_ _)|(with_reducible refine Kd.C_drew ?_)|exact HR813.out)⟩,⟨by repeat (first|(with_reducible exact HR827.out)|(with_reducible refine Kd.C_alloc ?_ _)|(with_reducible refine Kd.C_drewN ?_ _)|(with_reducible refine Kd.C_drew ?_)|exact HR827.out)⟩,⟨by repeat (first|(with_reducible exact HR831.out)|(with_reducible refine Kd.C_alloc ?_ _)|(with_reducible refine Kd.C_drewN ?_ _)|(with_reducible refine Kd.C_drew ?_)|exact HR831.out)⟩,⟨by repeat (first|(with_reducible exact HR846.out)|(with_reducible refine Kd.C_alloc ?_ _)|(with_reducible refine Kd.C_drewN ?_ _)|(with_reducible refine Kd.C_drew ?_)|exact HR846.out)⟩,⟨by repeat (first|(with_reducible exact HR850.out)|(with_reducible refine Kd.C_alloc ?_ _)|(with_reducible refine Kd.C_drewN ?_ _)|(with_reducible refine Kd.C_drew ?_)|exact HR850.out)⟩,⟨by repeat (first|(with_reducible first|exact HB.out|apply below_alloc|apply pw_below_drewN|apply below_drew1)|exact HB.out)⟩⟩
       case rest => as_aux_lemma =>
        clear HC77;(try clear c1);(try clear q1);(try clear c2);(try clear p2);(try clear q2);(try clear c3);(try clear c4);(try clear c5);(try clear q5);(try clear c7);(try clear c7b0);(try clear c7b1);(try clear q7);(try clear c8);(try clear c8b0);(try clear c8b1);(try clear q8);(try clear q14);(try clear c15);(try clear c16);(try clear c18);(try clear c18b0);(try clear c18b1);(try clear c23);(try clear c24);(try clear c24b0);(try clear c24b1);(try clear c25);(try clear c25b0);(try clear c25b1);(try clear c29);(try clear q29);(try clear c32);(try clear c32b0);(try clear c32b1);(try clear c34);(try clear c36);(try clear c40);(try clear c41);(try clear c42);(try clear c42b0);(try clear c42b1);(try clear c43);(try clear c43b0);(try clear c43b1);(try clear c44);(try clear c44b0);(try clear c44b1);(try clear c45);(try clear c45b0);(try clear c45b1);(try clear c46);(try clear c47);(try clear c48);(try clear q50);(try clear q51);(try clear c55);(try clear c55b0);(try clear c55b1);(try clear c57);(try clear c59);(try clear c70);(try clear c71);(try clear c71b0);(try clear c71b1);(try clear c72);(try clear c72b0);(try clear c72b1);(try clear c73);(try clear c73b0);(try clear c73b1);(try clear c74);(try clear c74b0);(try clear c74b1);(try clear q79);(try clear q80);(try clear c83);(try clear c83b0);(try clear c83b1);(try clear c85);(try clear c87);(try clear p2);(try clear q1);(try clear q14);(try clear q2);(try clear q29);(try clear q5);(try clear q50);(try clear q51);(try clear q79);(try clear q80)
        obtain ⟨kq,x139_76,rfl,HA,HJ76,HO_5,HO_6,HR806,HR813,HR827,HR831,HR846,HR850,HB⟩:=hcut
        cases kq with
       |zero => exact absurd HA.out (by simp [bursarlaw03_QuantLists.j3])
       |succ kj76 =>
         have H:=HA.out
         clear HA
         simp only [bursarlaw03_QuantLists.j3] at H
         by_cases c98 : x139_76 = true
         ·subst c98
          have H1 : (none) = some r:=by rw [if_pos rfl] at H;exact H
          clear H;have H:=H1;clear H1
          exact absurd H (by simp)
         replace c98:=Bool.eq_false_iff.mpr c98
         subst c98
         have H1 : (if 0 ≤ (l0.length : Int) then (if (l0.length : Int) ≤ (t797.length : Int) then (if 0 ≤ (l1.length : Int) then (if (l1.length : Int) ≤ (t800.length : Int) then ((quant_Within.f kj76 (t797.take ((l0.length : Int) : Int).toNat) (t800.take ((l1.length : Int) : Int).toNat)).bind fun bt870 => ((bursarref03_Within.f kj76 l0 l1).bind fun bt872 => (if bt870.2 = bt872.2 then (if bt870.1.toList = bt872.1.toList then ((bursarlaw03_untouched.f kj76 t797 l0).bind fun t874 => (if t874 = true then ((bursarlaw03_untouched.f kj76 t800 l1).bind fun t875 => (some t875)) else (none))) else (none)) else (none)))) else (none)) else (none)) else (none)) else (none)) = some r:=by rw [if_neg (show ¬ (false = true) by decide)] at H;exact H
         clear H;have H:=H1;clear H1
         by_cases c99 : 0 ≤ (l0.length : Int)
         rotate_left
         ·rw [if_neg c99] at H
          exact absurd H (by simp)
         rw [if_pos c99] at H
         have c99b0:=eq_true c99
         have c99b1 : decide (0 ≤ (l0.length : Int)) = true:=decide_eq_true c99
         clear c99
         by_cases c100 : (l0.length : Int) ≤ (t797.length : Int)
         rotate_left
         ·rw [if_neg c100] at H
          exact absurd H (by simp)
         rw [if_pos c100] at H
         have c100b0:=eq_true c100
         have c100b1 : decide ((l0.length : Int) ≤ (t797.length : Int)) = true:=decide_eq_true c100
         clear c100
         obtain ⟨y862,hy862⟩ : ∃ y_ : List (S57),y_ = (t797.take ((l0.length : Int) : Int).toNat):=⟨_,rfl⟩
         replace H : (if 0 ≤ (l1.length : Int) then (if (l1.length : Int) ≤ (t800.length : Int) then ((quant_Within.f kj76 y862 (t800.take ((l1.length : Int) : Int).toNat)).bind fun bt870 => ((bursarref03_Within.f kj76 l0 l1).bind fun bt872 => (if bt870.2 = bt872.2 then (if bt870.1.toList = bt872.1.toList then ((bursarlaw03_untouched.f kj76 t797 l0).bind fun t874 => (if t874 = true then ((bursarlaw03_untouched.f kj76 t800 l1).bind fun t875 => (some t875)) else (none))) else (none)) else (none)))) else (none)) else (none)) = some r:=by first|(rw [hy862];with_reducible exact H)|(have H2_:=(Option.bind_some _ _).symm.trans H;rw [hy862];with_reducible exact H2_)|(have H2_:=(Option.bind_some _ _).symm.trans H;with_reducible exact H2_)|with_reducible exact H|(rw [hy862];exact H)|exact H
         have Ny862:=Aside0.mk hy862
         clear hy862
         by_cases c101 : 0 ≤ (l1.length : Int)
         rotate_left
         ·rw [if_neg c101] at H
          exact absurd H (by simp)
         rw [if_pos c101] at H
         have c101b0:=eq_true c101
         have c101b1 : decide (0 ≤ (l1.length : Int)) = true:=decide_eq_true c101
         clear c101
         by_cases c102 : (l1.length : Int) ≤ (t800.length : Int)
         rotate_left
         ·rw [if_neg c102] at H
          exact absurd H (by simp)
         rw [if_pos c102] at H
         have c102b0:=eq_true c102
         have c102b1 : decide ((l1.length : Int) ≤ (t800.length : Int)) = true:=decide_eq_true c102
         clear c102
         obtain ⟨y866,hy866⟩ : ∃ y_ : List (S57),y_ = (t800.take ((l1.length : Int) : Int).toNat):=⟨_,rfl⟩
         replace H : ((quant_Within.f kj76 y862 y866).bind fun bt870 => ((bursarref03_Within.f kj76 l0 l1).bind fun bt872 => (if bt870.2 = bt872.2 then (if bt870.1.toList = bt872.1.toList then ((bursarlaw03_untouched.f kj76 t797 l0).bind fun t874 => (if t874 = true then ((bursarlaw03_untouched.f kj76 t800 l1).bind fun t875 => (some t875)) else (none))) else (none)) else (none)))) = some r:=by first|(rw [hy866];with_reducible exact H)|(have H2_:=(Option.bind_some _ _).symm.trans H;rw [hy866];with_reducible exact H2_)|(have H2_:=(Option.bind_some _ _).symm.trans H;with_reducible exact H2_)|with_reducible exact H|(rw [hy866];exact H)|exact H
         have Ny866:=Aside0.mk hy866
         clear hy866
         replace H:=Option.bind_eq_some_iff.mp H
         obtain ⟨⟨t870,t871⟩,A1030,H⟩:=H
         replace H : ((bursarref03_Within.f kj76 l0 l1).bind fun bt872 => (if t871 = bt872.2 then (if t870.toList = bt872.1.toList then ((bursarlaw03_untouched.f kj76 t797 l0).bind fun t874 => (if t874 = true then ((bursarlaw03_untouched.f kj76 t800 l1).bind fun t875 => (some t875)) else (none))) else (none)) else (none))) = some r:=H
         have A103:=Aside0.mk A1030
         clear A1030
         replace H:=Option.bind_eq_some_iff.mp H
         obtain ⟨⟨t872,t873⟩,A1040,H⟩:=H
         replace H : (if t871 = t873 then (if t870.toList = t872.toList then ((bursarlaw03_untouched.f kj76 t797 l0).bind fun t874 => (if t874 = true then ((bursarlaw03_untouched.f kj76 t800 l1).bind fun t875 => (some t875)) else (none))) else (none)) else (none)) = some r:=H
         have A104:=Aside0.mk A1040
         clear A1040
         by_cases c105 : t871 = t873
         rotate_left
         ·rw [if_neg c105] at H
          exact absurd H (by simp)
         rw [if_pos c105] at H
         have c105b0 : (t871 == t873) = true:=beq_iff_eq.mpr c105
         have c105b1 : (t871 != t873) = false:=bne_eq_false_iff_eq.mpr c105
         clear c105
         by_cases c106 : t870.toList = t872.toList
         rotate_left
         ·rw [if_neg c106] at H
          exact absurd H (by simp)
         rw [if_pos c106] at H
         have c106b0 : (t870.toList == t872.toList) = true:=beq_iff_eq.mpr c106
         have c106b1 : (t870.toList != t872.toList) = false:=bne_eq_false_iff_eq.mpr c106
         clear c106
         replace H:=Option.bind_eq_some_iff.mp H
         obtain ⟨t874,A1070,H⟩:=H
         replace H : (if t874 = true then ((bursarlaw03_untouched.f kj76 t800 l1).bind fun t875 => (some t875)) else (none)) = some r:=H
         have A107:=Aside0.mk A1070
         clear A1070
         by_cases c108 : t874 = true
         rotate_left
         ·replace c108:=Bool.eq_false_iff.mpr c108
          subst c108
          have H1 : (none) = some r:=by rw [if_neg (show ¬ (false = true) by decide)] at H;exact H
          clear H;have H:=H1;clear H1
          exact absurd H (by simp)
         subst c108
         have H1 : ((bursarlaw03_untouched.f kj76 t800 l1).bind fun t875 => (some t875)) = some r:=by rw [if_pos rfl] at H;exact H
         clear H;have H:=H1;clear H1
         replace H:=Option.bind_eq_some_iff.mp H
         obtain ⟨t875,A1090,H⟩:=H
         replace H : (some t875) = some r:=H
         have A109:=Aside0.mk A1090
         clear A1090
         obtain rfl:=Option.some.inj H
         try go_wp2
         have n0_:=Aside0.mk (Kd.R_drew HO_5.out)
         have n1_:=Aside0.mk (Kd.R_drew HO_6.out)
         have n2_:=Aside0.mk (Kd.C_drew HR806.out)
         have n3_:=Aside0.mk (Kd.C_drew HR813.out)
         have n4_:=Aside0.mk (Kd.C_drew HR827.out)
         have n5_:=Aside0.mk (Kd.C_drew HR831.out)
         have n6_:=Aside0.mk (Kd.C_drew HR846.out)
         have n7_:=Aside0.mk (Kd.C_drew HR850.out)
         have n8_:=Aside0.mk (below_drew1 HB.out)
         clear HO_5;clear HO_6;clear HR806;clear HR813;clear HR827;clear HR831;clear HR846;clear HR850;clear HB;have HO_5:=n0_;have HO_6:=n1_;have HR806:=n2_;have HR813:=n3_;have HR827:=n4_;have HR831:=n5_;have HR846:=n6_;have HR850:=n7_;have HB:=n8_;clear n0_ n1_ n2_ n3_ n4_ n5_ n6_ n7_ n8_
         have q111 : ((l0.length : Int) : Int) ≤ ((t797.length : Int) : Int):=of_decide_eq_true (by first|(with_reducible assumption)|assumption)
         obtain ⟨i0111,hi0111,_,hsz111,_⟩:=info_parts info57
         have hroom111 : t797.length ≤ co15:=(Kd.R_reads' HO_5.out).2.1
         have hC111 : Kd.C k57 _ Ao15 t797.length t797:=(Kd.R_reads' HO_5.out).2.2
         (try clear hcut14);(try clear hcut29);(try clear hcut50);(try clear hcut79);have hcut111:=cut_to (P:=Tryz.prog) 46 57 .i64 Tryz.underlying46 hi0111 Ao15 t797.length co15 (l0.length : Int) (of_decide_eq_true (by first|(with_reducible assumption)|assumption)) q111 hroom111
         have hr111:=Kd.C_take (m:=((l0.length : Int) : Int).toNat) hC111 (by omega)
         have hy111 : y862.length = ((l0.length : Int) : Int).toNat:=(by rw [Ny862.out,List.length_take];omega)
         rw [← Ny862.out] at hr111
         rw [← hy111] at hcut111
         have HR865:=Aside0.mk hr111
         have HC865:=Aside0.mk (show y862.length ≤ co15 from by omega)
         clear hr111 hC111 hroom111 hi0111 hsz111
         have KY111:=Aside0.mk hy111
         clear hy111
         have KL111:=Aside0.mk (show ((l0.length : Int) : Int).toNat ≤ t797.length from by omega)
         replace q111:=eq_true q111
         have q112 : ((l1.length : Int) : Int) ≤ ((t800.length : Int) : Int):=of_decide_eq_true (by first|(with_reducible assumption)|assumption)
         obtain ⟨i0112,hi0112,_,hsz112,_⟩:=info_parts info57
         have hroom112 : t800.length ≤ co52:=(Kd.R_reads' HO_6.out).2.1
         have hC112 : Kd.C k57 _ Ao52 t800.length t800:=(Kd.R_reads' HO_6.out).2.2
         (try clear hcut51);(try clear hcut80);have hcut112:=cut_to (P:=Tryz.prog) 46 57 .i64 Tryz.underlying46 hi0112 Ao52 t800.length co52 (l1.length : Int) (of_decide_eq_true (by first|(with_reducible assumption)|assumption)) q112 hroom112
         have hr112:=Kd.C_take (m:=((l1.length : Int) : Int).toNat) hC112 (by omega)
         have hy112 : y866.length = ((l1.length : Int) : Int).toNat:=(by rw [Ny866.out,List.length_take];omega)
         rw [← Ny866.out] at hr112
         rw [← hy112] at hcut112
         have HR869:=Aside0.mk hr112
         have HC869:=Aside0.mk (show y866.length ≤ co52 from by omega)
         clear hr112 hC112 hroom112 hi0112 hsz112
         have KY112:=Aside0.mk hy112
         clear hy112
         have KL112:=Aside0.mk (show ((l1.length : Int) : Int).toNat ≤ t800.length from by omega)
         replace q112:=eq_true q112
         refine start_ (n:=14) (S:=fun w' => True) (ds:=[]) (bl 0 14) (by kernel_rfl) rfl rfl trivial (fun hHeld => ?_);refine with_tabW bursarlaw03_QuantLists.tab20 bursarlaw03_QuantLists.bits20 (fun HT_ HW_ => ?_)
         generalize wc.drew = w110 at HO_5 HO_6 HR806 HR813 HR827 HR831 HR846 HR850 HB HR865 HR869 hHeld ⊢
         refine pure_ (i:=0) (N:=some 141) (v:=?_) (a':=?_) (bl 1 13) rfl rfl (any_of HT_.out (by kernel_rfl)) (fun _ _ _ h => h) (Or.inl ⟨by rfl,?_⟩) ?_ ?_
         rotate_left;·intro w';go_simp;with_reducible rfl
         rotate_left;·simp only [pu_];rfl
         refine pure_ (i:=1) (N:=some 142) (v:=?_) (a':=?_) (bl 2 12) rfl rfl (any_of HT_.out (by kernel_rfl)) (fun _ _ _ h => h) (Or.inl ⟨by rfl,?_⟩) ?_ ?_
         rotate_left;·intro w';go_simp;with_reducible rfl
         rotate_left;·simp only [pu_];rfl
         refine pure_ (i:=2) (N:=some 143) (v:=?_) (a':=?_) (bl 3 11) rfl rfl (any_of HT_.out (by kernel_rfl)) (fun _ _ _ h => h) (Or.inl ⟨by rfl,?_⟩) ?_ ?_
         rotate_left;·intro w';go_simp;with_reducible rfl
         rotate_left;·simp only [pu_];rfl
         refine pure_ (i:=3) (N:=some 144) (v:=?_) (a':=?_) (bl 4 10) rfl rfl (any_of HT_.out (by kernel_rfl)) (fun _ _ _ h => h) (Or.inl ⟨by rfl,?_⟩) ?_ ?_
         rotate_left;·intro w';go_simp;with_reducible rfl
         rotate_left;·simp only [pu_];rfl
         refine pure_ (i:=4) (N:=some 145) (v:=?_) (a':=?_) (bl 5 9) rfl rfl (any_of HT_.out (by kernel_rfl)) (fun _ _ _ h => h) (Or.inl ⟨by rfl,?_⟩) ?_ ?_
         rotate_left;·intro w';go_simp;with_reducible rfl
         rotate_left;·simp only [pu_];rfl
         refine pure_ (i:=5) (N:=some 146) (v:=?_) (a':=?_) (bl 6 8) rfl rfl (any_of HT_.out (by kernel_rfl)) (fun _ _ _ h => h) (Or.inl ⟨by rfl,?_⟩) ?_ ?_
         rotate_left;·intro w';go_simp;with_reducible rfl
         rotate_left;·simp only [pu_];rfl
         refine pure_ (i:=6) (N:=some 147) (v:=?_) (a':=?_) (bl 7 7) rfl rfl (any_of HT_.out (by kernel_rfl)) (fun _ _ _ h => h) (Or.inl ⟨by rfl,?_⟩) ?_ ?_
         rotate_left;·intro w';go_simp;with_reducible rfl
         rotate_left;·simp only [pu_];rfl
         refine pure_ (i:=7) (N:=some 148) (v:=?_) (a':=?_) (bl 8 6) rfl rfl (any_of HT_.out (by kernel_rfl)) (fun _ _ _ h => h) (Or.inl ⟨by rfl,?_⟩) ?_ ?_
         rotate_left;·intro w';go_simp;with_reducible rfl
         rotate_left;·simp only [pu_];rfl
         refine one_ (i:=8) (N:=some 149) (bl 9 5) rfl rfl (one_of HT_.out (by kernel_rfl)) (by decide) (fun K hK => ?_)
         refine goes_ Tryz.func44 (by kernel_rfl) rfl #[.slice Ao15 y862.length co15,.slice Ao52 y866.length co52] (by rfl) rfl rfl (by (try simp only [List.map_toArray,List.map_cons,List.map_nil]);first|done|rfl|(simp only [List.length_drop,List.length_take];rfl)) ?_
         with_reducible refine (quant_Within.calls kj76 _ _ y862 _ _ y866 t870 t871 _ ?side1 ?side2 ?side3 ?side4 A103.out (Glob.below hG.toGlob (by repeat (first|(with_reducible first|exact HB.out|apply below_alloc|apply pw_below_drewN|apply below_drew1)|exact HB.out)))).mono ?_
         (case side1 => repeat (first|exact (by repeat (first|(with_reducible exact HR865.out)|(with_reducible refine Kd.C_alloc ?_ _)|(with_reducible refine Kd.C_drewN ?_ _)|(with_reducible refine Kd.C_drew ?_)|exact HR865.out))|(with_reducible refine Kd.C_alloc ?_ _)|(with_reducible refine Kd.C_drewN ?_ _)|(with_reducible refine Kd.C_drew ?_)))
         (case side2 => exact HC865.out)
         (case side3 => repeat (first|exact (by repeat (first|(with_reducible exact HR869.out)|(with_reducible refine Kd.C_alloc ?_ _)|(with_reducible refine Kd.C_drewN ?_ _)|(with_reducible refine Kd.C_drew ?_)|exact HR869.out))|(with_reducible refine Kd.C_alloc ?_ _)|(with_reducible refine Kd.C_drewN ?_ _)|(with_reducible refine Kd.C_drew ?_)))
         (case side4 => exact HC869.out)
         rintro e w113 ⟨rfl,hb⟩
         refine ⟨_,rfl,?_⟩
         have n0_:=Aside0.mk (Kd.R_below (by (with_reducible repeat (first|apply Kd.R_alloc|apply Kd.R_drewN|apply Kd.R_drew));exact HO_5.out) hb)
         have n1_:=Aside0.mk (Kd.R_below (by (with_reducible repeat (first|apply Kd.R_alloc|apply Kd.R_drewN|apply Kd.R_drew));exact HO_6.out) hb)
         have n2_:=Aside0.mk ((show Kd.C k57 _ Ao15 y803.length y803 from Kd.C_below (by repeat (first|(with_reducible exact HR806.out)|(with_reducible refine Kd.C_alloc ?_ _)|(with_reducible refine Kd.C_drewN ?_ _)|(with_reducible refine Kd.C_drew ?_)|exact HR806.out)) hb))
         have n3_:=Aside0.mk ((show Kd.C k57 _ Ao15 y810.length y810 from Kd.C_below (by repeat (first|(with_reducible exact HR813.out)|(with_reducible refine Kd.C_alloc ?_ _)|(with_reducible refine Kd.C_drewN ?_ _)|(with_reducible refine Kd.C_drew ?_)|exact HR813.out)) hb))
         have n4_:=Aside0.mk ((show Kd.C k57 _ Ao15 y824.length y824 from Kd.C_below (by repeat (first|(with_reducible exact HR827.out)|(with_reducible refine Kd.C_alloc ?_ _)|(with_reducible refine Kd.C_drewN ?_ _)|(with_reducible refine Kd.C_drew ?_)|exact HR827.out)) hb))
         have n5_:=Aside0.mk ((show Kd.C k57 _ Ao52 y828.length y828 from Kd.C_below (by repeat (first|(with_reducible exact HR831.out)|(with_reducible refine Kd.C_alloc ?_ _)|(with_reducible refine Kd.C_drewN ?_ _)|(with_reducible refine Kd.C_drew ?_)|exact HR831.out)) hb))
         have n6_:=Aside0.mk ((show Kd.C k57 _ Ao15 y843.length y843 from Kd.C_below (by repeat (first|(with_reducible exact HR846.out)|(with_reducible refine Kd.C_alloc ?_ _)|(with_reducible refine Kd.C_drewN ?_ _)|(with_reducible refine Kd.C_drew ?_)|exact HR846.out)) hb))
         have n7_:=Aside0.mk ((show Kd.C k57 _ Ao52 y847.length y847 from Kd.C_below (by repeat (first|(with_reducible exact HR850.out)|(with_reducible refine Kd.C_alloc ?_ _)|(with_reducible refine Kd.C_drewN ?_ _)|(with_reducible refine Kd.C_drew ?_)|exact HR850.out)) hb))
         have n8_:=Aside0.mk ((show Kd.C k57 _ Ao15 y862.length y862 from Kd.C_below (by repeat (first|(with_reducible exact HR865.out)|(with_reducible refine Kd.C_alloc ?_ _)|(with_reducible refine Kd.C_drewN ?_ _)|(with_reducible refine Kd.C_drew ?_)|exact HR865.out)) hb))
         have n9_:=Aside0.mk ((show Kd.C k57 _ Ao52 y866.length y866 from Kd.C_below (by repeat (first|(with_reducible exact HR869.out)|(with_reducible refine Kd.C_alloc ?_ _)|(with_reducible refine Kd.C_drewN ?_ _)|(with_reducible refine Kd.C_drew ?_)|exact HR869.out)) hb))
         have n10_:=Aside0.mk (below_step (by repeat (first|(with_reducible first|exact HB.out|apply below_alloc|apply pw_below_drewN|apply below_drew1)|exact HB.out)) hb)
         clear HO_5;clear HO_6;clear HR806;clear HR813;clear HR827;clear HR831;clear HR846;clear HR850;clear HR865;clear HR869;clear HB;have HO_5:=n0_;have HO_6:=n1_;have HR806:=n2_;have HR813:=n3_;have HR827:=n4_;have HR831:=n5_;have HR846:=n6_;have HR850:=n7_;have HR865:=n8_;have HR869:=n9_;have HB:=n10_;clear n0_ n1_ n2_ n3_ n4_ n5_ n6_ n7_ n8_ n9_ n10_;(try clear hb);(try clear hb2);(try clear hk);(try clear hi)
         refine hK.out _ _ trivial (fun hHeld => ?_)
         clear hK K
         refine norm_ (a':=?_) ?_ ?_
         rotate_left
         ·show Act.put _ (some 149) _ = _
          simp only [pu_]
          rfl
         refine pure_ (i:=9) (N:=some 140) (v:=?_) (a':=?_) (bl 10 4) rfl rfl (any_of HT_.out (by kernel_rfl)) (fun _ _ _ h => h) (Or.inl ⟨by rfl,?_⟩) ?_ ?_
         rotate_left;·intro w';go_simp;with_reducible rfl
         rotate_left;·simp only [pu_];rfl
         refine pure_ (i:=10) (N:=some 150) (v:=?_) (a':=?_) (bl 11 3) rfl rfl (any_of HT_.out (by kernel_rfl)) (fun _ _ _ h => h) (Or.inl ⟨by rfl,?_⟩) ?_ ?_
         rotate_left;·intro w';go_simp;with_reducible rfl
         rotate_left;·simp only [pu_];rfl
         refine pure_ (i:=11) (N:=some 151) (v:=?_) (a':=?_) (bl 12 2) rfl rfl (any_of HT_.out (by kernel_rfl)) (fun _ _ _ h => h) (Or.inl ⟨by rfl,?_⟩) ?_ ?_
         rotate_left;·intro w';go_simp;with_reducible rfl
         rotate_left;·simp only [pu_];rfl
         refine pure_ (i:=12) (N:=some 11) (v:=?_) (a':=?_) (bl 13 1) rfl rfl (any_of HT_.out (by kernel_rfl)) (fun _ _ _ h => h) (Or.inl ⟨by rfl,?_⟩) ?_ ?_
         rotate_left;·intro w';go_simp;with_reducible rfl
         rotate_left;·simp only [pu_];rfl
         refine pure_ (i:=13) (N:=some 7) (v:=?_) (a':=?_) (bl 14 0) rfl rfl (any_of HT_.out (by kernel_rfl)) (fun _ _ _ h => h) (Or.inl ⟨by rfl,?_⟩) ?_ ?_
         rotate_left;·intro w';go_simp;with_reducible rfl
         rotate_left;·simp only [pu_];rfl
         refine done_ (done_of HT_.out (by kernel_rfl)) ?_
         try go_wp2_with (first|((with_reducible refine gate_callee (f:=49) rfl ?_);refine goesL_ (some 155) rfl rfl Tryz.func49 (by kernel_rfl) rfl #[.slice A0 l0.length c0,.slice A1 l1.length c1] rfl (by (try simp only [List.map_toArray,List.map_cons,List.map_nil]);first|done|rfl|(simp only [List.length_drop,List.length_take];rfl)) ?_;(with_reducible refine (bursarref03_Within.calls kj76 _ _ l0 _ _ l1 t872 t873 _ ?side1 ?side2 ?side3 ?side4 A104.out).mono ?_);(case side1 => repeat (first|exact (Kd.C_below HR0.out HB.out)|(with_reducible refine Kd.C_alloc ?_ _)|(with_reducible refine Kd.C_drewN ?_ _)|(with_reducible refine Kd.C_drew ?_)));(case side2 => exact HC0.out);(case side3 => repeat (first|exact (Kd.C_below HR1.out HB.out)|(with_reducible refine Kd.C_alloc ?_ _)|(with_reducible refine Kd.C_drewN ?_ _)|(with_reducible refine Kd.C_drew ?_)));(case side4 => exact HC1.out);rintro e w114 ⟨rfl,hb⟩;refine ⟨_,rfl,?_⟩;have n0_:=Aside0.mk (Kd.R_below (by (with_reducible repeat (first|apply Kd.R_alloc|apply Kd.R_drewN|apply Kd.R_drew));exact HO_5.out) hb);have n1_:=Aside0.mk (Kd.R_below (by (with_reducible repeat (first|apply Kd.R_alloc|apply Kd.R_drewN|apply Kd.R_drew));exact HO_6.out) hb);have n2_:=Aside0.mk ((show Kd.C k57 _ Ao15 y803.length y803 from Kd.C_below (by repeat (first|(with_reducible exact HR806.out)|(with_reducible refine Kd.C_alloc ?_ _)|(with_reducible refine Kd.C_drewN ?_ _)|(with_reducible refine Kd.C_drew ?_)|exact HR806.out)) hb));have n3_:=Aside0.mk ((show Kd.C k57 _ Ao15 y810.length y810 from Kd.C_below (by repeat (first|(with_reducible exact HR813.out)|(with_reducible refine Kd.C_alloc ?_ _)|(with_reducible refine Kd.C_drewN ?_ _)|(with_reducible refine Kd.C_drew ?_)|exact HR813.out)) hb));have n4_:=Aside0.mk ((show Kd.C k57 _ Ao15 y824.length y824 from Kd.C_below (by repeat (first|(with_reducible exact HR827.out)|(with_reducible refine Kd.C_alloc ?_ _)|(with_reducible refine Kd.C_drewN ?_ _)|(with_reducible refine Kd.C_drew ?_)|exact HR827.out)) hb));have n5_:=Aside0.mk ((show Kd.C k57 _ Ao52 y828.length y828 from Kd.C_below (by repeat (first|(with_reducible exact HR831.out)|(with_reducible refine Kd.C_alloc ?_ _)|(with_reducible refine Kd.C_drewN ?_ _)|(with_reducible refine Kd.C_drew ?_)|exact HR831.out)) hb));have n6_:=Aside0.mk ((show Kd.C k57 _ Ao15 y843.length y843 from Kd.C_below (by repeat (first|(with_reducible exact HR846.out)|(with_reducible refine Kd.C_alloc ?_ _)|(with_reducible refine Kd.C_drewN ?_ _)|(with_reducible refine Kd.C_drew ?_)|exact HR846.out)) hb));have n7_:=Aside0.mk ((show Kd.C k57 _ Ao52 y847.length y847 from Kd.C_below (by repeat (first|(with_reducible exact HR850.out)|(with_reducible refine Kd.C_alloc ?_ _)|(with_reducible refine Kd.C_drewN ?_ _)|(with_reducible refine Kd.C_drew ?_)|exact HR850.out)) hb));have n8_:=Aside0.mk ((show Kd.C k57 _ Ao15 y862.length y862 from Kd.C_below (by repeat (first|(with_reducible exact HR865.out)|(with_reducible refine Kd.C_alloc ?_ _)|(with_reducible refine Kd.C_drewN ?_ _)|(with_reducible refine Kd.C_drew ?_)|exact HR865.out)) hb));have n9_:=Aside0.mk ((show Kd.C k57 _ Ao52 y866.length y866 from Kd.C_below (by repeat (first|(with_reducible exact HR869.out)|(with_reducible refine Kd.C_alloc ?_ _)|(with_reducible refine Kd.C_drewN ?_ _)|(with_reducible refine Kd.C_drew ?_)|exact HR869.out)) hb));have n10_:=Aside0.mk (below_step (by repeat (first|(with_reducible first|exact HB.out|apply below_alloc|apply pw_below_drewN|apply below_drew1)|exact HB.out)) hb);clear HO_5;clear HO_6;clear HR806;clear HR813;clear HR827;clear HR831;clear HR846;clear HR850;clear HR865;clear HR869;clear HB;have HO_5:=n0_;have HO_6:=n1_;have HR806:=n2_;have HR813:=n3_;have HR827:=n4_;have HR831:=n5_;have HR846:=n6_;have HR850:=n7_;have HR865:=n8_;have HR869:=n9_;have HB:=n10_;clear n0_ n1_ n2_ n3_ n4_ n5_ n6_ n7_ n8_ n9_ n10_;(try clear hb);(try clear hb2);(try clear hk);(try clear hi))|(go_at_call 32;(with_reducible refine (bursarlaw03_untouched.calls kj76 _ _ t797 _ _ l0 true _ ?side1 ?side2 ?side3 ?side4 A107.out (GlobM.below hG (by repeat (first|(with_reducible first|exact HB.out|apply below_alloc|apply pw_below_drewN|apply below_drew1)|exact HB.out)))).mono ?_);(case side1 => repeat (first|exact (Kd.R_reads' HO_5.out).2.2|(with_reducible refine Kd.C_alloc ?_ _)|(with_reducible refine Kd.C_drewN ?_ _)|(with_reducible refine Kd.C_drew ?_)));(case side2 => exact (Kd.R_reads' HO_5.out).2.1);(case side3 => repeat (first|exact (Kd.C_below HR0.out HB.out)|(with_reducible refine Kd.C_alloc ?_ _)|(with_reducible refine Kd.C_drewN ?_ _)|(with_reducible refine Kd.C_drew ?_)));(case side4 => exact HC0.out);rintro e w115 ⟨rfl,hb⟩;have n0_:=Aside0.mk (Kd.R_below (by (with_reducible repeat (first|apply Kd.R_alloc|apply Kd.R_drewN|apply Kd.R_drew));exact HO_5.out) hb);have n1_:=Aside0.mk (Kd.R_below (by (with_reducible repeat (first|apply Kd.R_alloc|apply Kd.R_drewN|apply Kd.R_drew));exact HO_6.out) hb);have n2_:=Aside0.mk ((show Kd.C k57 _ Ao15 y803.length y803 from Kd.C_below (by repeat (first|(with_reducible exact HR806.out)|(with_reducible refine Kd.C_alloc ?_ _)|(with_reducible refine Kd.C_drewN ?_ _)|(with_reducible refine Kd.C_drew ?_)|exact HR806.out)) hb));have n3_:=Aside0.mk ((show Kd.C k57 _ Ao15 y810.length y810 from Kd.C_below (by repeat (first|(with_reducible exact HR813.out)|(with_reducible refine Kd.C_alloc ?_ _)|(with_reducible refine Kd.C_drewN ?_ _)|(with_reducible refine Kd.C_drew ?_)|exact HR813.out)) hb));have n4_:=Aside0.mk ((show Kd.C k57 _ Ao15 y824.length y824 from Kd.C_below (by repeat (first|(with_reducible exact HR827.out)|(with_reducible refine Kd.C_alloc ?_ _)|(with_reducible refine Kd.C_drewN ?_ _)|(with_reducible refine Kd.C_drew ?_)|exact HR827.out)) hb));have n5_:=Aside0.mk ((show Kd.C k57 _ Ao52 y828.length y828 from Kd.C_below (by repeat (first|(with_reducible exact HR831.out)|(with_reducible refine Kd.C_alloc ?_ _)|(with_reducible refine Kd.C_drewN ?_ _)|(with_reducible refine Kd.C_drew ?_)|exact HR831.out)) hb));have n6_:=Aside0.mk ((show Kd.C k57 _ Ao15 y843.length y843 from Kd.C_below (by repeat (first|(with_reducible exact HR846.out)|(with_reducible refine Kd.C_alloc ?_ _)|(with_reducible refine Kd.C_drewN ?_ _)|(with_reducible refine Kd.C_drew ?_)|exact HR846.out)) hb));have n7_:=Aside0.mk ((show Kd.C k57 _ Ao52 y847.length y847 from Kd.C_below (by repeat (first|(with_reducible exact HR850.out)|(with_reducible refine Kd.C_alloc ?_ _)|(with_reducible refine Kd.C_drewN ?_ _)|(with_reducible refine Kd.C_drew ?_)|exact HR850.out)) hb));have n8_:=Aside0.mk ((show Kd.C k57 _ Ao15 y862.length y862 from Kd.C_below (by repeat (first|(with_reducible exact HR865.out)|(with_reducible refine Kd.C_alloc ?_ _)|(with_reducible refine Kd.C_drewN ?_ _)|(with_reducible refine Kd.C_drew ?_)|exact HR865.out)) hb));have n9_:=Aside0.mk ((show Kd.C k57 _ Ao52 y866.length y866 from Kd.C_below (by repeat (first|(with_reducible exact HR869.out)|(with_reducible refine Kd.C_alloc ?_ _)|(with_reducible refine Kd.C_drewN ?_ _)|(with_reducible refine Kd.C_drew ?_)|exact HR869.out)) hb));have n10_:=Aside0.mk (below_step (by repeat (first|(with_reducible first|exact HB.out|apply below_alloc|apply pw_below_drewN|apply below_drew1)|exact HB.out)) hb);clear HO_5;clear HO_6;clear HR806;clear HR813;clear HR827;clear HR831;clear HR846;clear HR850;clear HR865;clear HR869;clear HB;have HO_5:=n0_;have HO_6:=n1_;have HR806:=n2_;have HR813:=n3_;have HR827:=n4_;have HR831:=n5_;have HR846:=n6_;have HR850:=n7_;have HR865:=n8_;have HR869:=n9_;have HB:=n10_;clear n0_ n1_ n2_ n3_ n4_ n5_ n6_ n7_ n8_ n9_ n10_;(try clear hb);(try clear hb2);(try clear hk);(try clear hi))|(go_at_call 32;(with_reducible refine (bursarlaw03_untouched.calls kj76 _ _ t800 _ _ l1 t875 _ ?side1 ?side2 ?side3 ?side4 A109.out (GlobM.below hG (by repeat (first|(with_reducible first|exact HB.out|apply below_alloc|apply pw_below_drewN|apply below_drew1)|exact HB.out)))).mono ?_);(case side1 => repeat (first|exact (Kd.R_reads' HO_6.out).2.2|(with_reducible refine Kd.C_alloc ?_ _)|(with_reducible refine Kd.C_drewN ?_ _)|(with_reducible refine Kd.C_drew ?_)));(case side2 => exact (Kd.R_reads' HO_6.out).2.1);(case side3 => repeat (first|exact (Kd.C_below HR1.out HB.out)|(with_reducible refine Kd.C_alloc ?_ _)|(with_reducible refine Kd.C_drewN ?_ _)|(with_reducible refine Kd.C_drew ?_)));(case side4 => exact HC1.out);rintro e w116 ⟨rfl,hb⟩;have n0_:=Aside0.mk (Kd.R_below (by (with_reducible repeat (first|apply Kd.R_alloc|apply Kd.R_drewN|apply Kd.R_drew));exact HO_5.out) hb);have n1_:=Aside0.mk (Kd.R_below (by (with_reducible repeat (first|apply Kd.R_alloc|apply Kd.R_drewN|apply Kd.R_drew));exact HO_6.out) hb);have n2_:=Aside0.mk ((show Kd.C k57 _ Ao15 y803.length y803 from Kd.C_below (by repeat (first|(with_reducible exact HR806.out)|(with_reducible refine Kd.C_alloc ?_ _)|(with_reducible refine Kd.C_drewN ?_ _)|(with_reducible refine Kd.C_drew ?_)|exact HR806.out)) hb));have n3_:=Aside0.mk ((show Kd.C k57 _ Ao15 y810.length y810 from Kd.C_below (by repeat (first|(with_reducible exact HR813.out)|(with_reducible refine Kd.C_alloc ?_ _)|(with_reducible refine Kd.C_drewN ?_ _)|(with_reducible refine Kd.C_drew ?_)|exact HR813.out)) hb));have n4_:=Aside0.mk ((show Kd.C k57 _ Ao15 y824.length y824 from Kd.C_below (by repeat (first|(with_reducible exact HR827.out)|(with_reducible refine Kd.C_alloc ?_ _)|(with_reducible refine Kd.C_drewN ?_ _)|(with_reducible refine Kd.C_drew ?_)|exact HR827.out)) hb));have n5_:=Aside0.mk ((show Kd.C k57 _ Ao52 y828.length y828 from Kd.C_below (by repeat (first|(with_reducible exact HR831.out)|(with_reducible refine Kd.C_alloc ?_ _)|(with_reducible refine Kd.C_drewN ?_ _)|(with_reducible refine Kd.C_drew ?_)|exact HR831.out)) hb));have n6_:=Aside0.mk ((show Kd.C k57 _ Ao15 y843.length y843 from Kd.C_below (by repeat (first|(with_reducible exact HR846.out)|(with_reducible refine Kd.C_alloc ?_ _)|(with_reducible refine Kd.C_drewN ?_ _)|(with_reducible refine Kd.C_drew ?_)|exact HR846.out)) hb));have n7_:=Aside0.mk ((show Kd.C k57 _ Ao52 y847.length y847 from Kd.C_below (by repeat (first|(with_reducible exact HR850.out)|(with_reducible refine Kd.C_alloc ?_ _)|(with_reducible refine Kd.C_drewN ?_ _)|(with_reducible refine Kd.C_drew ?_)|exact HR850.out)) hb));have n8_:=Aside0.mk ((show Kd.C k57 _ Ao15 y862.length y862 from Kd.C_below (by repeat (first|(with_reducible exact HR865.out)|(with_reducible refine Kd.C_alloc ?_ _)|(with_reducible refine Kd.C_drewN ?_ _)|(with_reducible refine Kd.C_drew ?_)|exact HR865.out)) hb));have n9_:=Aside0.mk ((show Kd.C k57 _ Ao52 y866.length y866 from Kd.C_below (by repeat (first|(with_reducible exact HR869.out)|(with_reducible refine Kd.C_alloc ?_ _)|(with_reducible refine Kd.C_drewN ?_ _)|(with_reducible refine Kd.C_drew ?_)|exact HR869.out)) hb));have n10_:=Aside0.mk (below_step (by repeat (first|(with_reducible first|exact HB.out|apply below_alloc|apply pw_below_drewN|apply below_drew1)|exact HB.out)) hb);clear HO_5;clear HO_6;clear HR806;clear HR813;clear HR827;clear HR831;clear HR846;clear HR850;clear HR865;clear HR869;clear HB;have HO_5:=n0_;have HO_6:=n1_;have HR806:=n2_;have HR813:=n3_;have HR827:=n4_;have HR831:=n5_;have HR846:=n6_;have HR850:=n7_;have HR865:=n8_;have HR869:=n9_;have HB:=n10_;clear n0_ n1_ n2_ n3_ n4_ n5_ n6_ n7_ n8_ n9_ n10_;(try clear hb);(try clear hb2);(try clear hk);(try clear hi)))
         go_ret
         exact ⟨by first|rfl|(simp [errW_none,errW_some] <;> rfl)|(simp [*,errW_none,errW_some] <;> rfl),by repeat (first|(with_reducible first|exact HB.out|apply below_alloc|apply pw_below_drewN|apply below_drew1)|exact HB.out)⟩
end Go.Proofs.YtejgbdclhlolkaaGreatDoor.Q
namespace Go.Proofs.YtejgbdclhlolkaaGreatDoor.Q
open Go.RowKit Go.Proofs.YtejgbdclhlolkaaGreatDoorW.PrintWords Go.Proofs.YtejgbdclhlolkaaGreatDoorW.PrintLast
set_option linter.unusedVariables false
set_option linter.unusedSimpArgs false
set_option maxRecDepth 100000 in
theorem known_at : bursarlaw03_known.f 60 = some true := by decide +kernel
theorem known_ev : Ev (fun k => bursarlaw03_known.f k) true := Ev.of bursarlaw03_known.mono known_at
end Go.Proofs.YtejgbdclhlolkaaGreatDoor.Q
namespace Go.Proofs.YtejgbdclhlolkaaGreatDoor.Q
open Go.RowKit Go.Proofs.YtejgbdclhlolkaaGreatDoorW.PrintWords Go.Proofs.YtejgbdclhlolkaaGreatDoorW.PrintLast
set_option linter.unusedVariables false
set_option linter.unusedSimpArgs false
theorem wl (i : Nat) (h : i < 9223372036854775807) : wrap64 ((i : Int) + 1) = ((i + 1 : Nat) : Int) := by unfold wrap64; omega
theorem ba_iffL (a b : ByteArray) : a.toList = b.toList ↔ a = b := by
  rw [ByteArray.toList_eq, ByteArray.toList_eq]
  refine ⟨fun h => ?_, fun h => by rw [h]⟩
  cases a; cases b; simp only at h; congr 1; exact Array.toList_inj.1 h
theorem rd_get57 (l : List S57) (i : Nat) (h : i < l.length) : rd_T57 l (i : Int) = l[i] := by
  simp [rd_T57, List.getD_eq_getElem?_getD, h]
def ofL (x : ByteArray) : List S57 → Int × Bool
  | [] => (0, false)
  | a :: l => if a.f0 = x then (a.f1, true) else ofL x l
theorem of_l0 (x : ByteArray) (l : List S57) (hl : l.length ≤ 9223372036854775806) : ∀ (m i : Nat), i + m = l.length → Ev (fun k => quant_Of.l0 k x l (l.length : Int) (i : Int)) (ofL x (l.drop i)) := by
  intro m
  induction m with
  | zero =>
    intro i hi
    rw [List.drop_eq_nil_of_le (by omega)]
    refine Ev.step (f := fun _ => some (0, false)) (fun k => ?_) (Ev.now _)
    simp only [quant_Of.l0]
    rw [if_neg (by omega)]
  | succ m ih =>
    intro i hi
    rw [List.drop_eq_getElem_cons (by omega), ofL]
    by_cases h : (l[i]'(by omega)).f0 = x
    · rw [if_pos h]
      refine Ev.step (f := fun _ => some ((l[i]'(by omega)).f1, true)) (fun k => ?_) (Ev.now _)
      simp only [quant_Of.l0]
      rw [if_pos (by omega), if_pos (by omega), if_pos (by omega), rd_get57 l i (by omega), if_pos ((ba_iffL _ _).2 h)]
    · rw [if_neg h]
      refine Ev.step (fun k => ?_) (ih (i + 1) (by omega))
      simp only [quant_Of.l0]
      rw [if_pos (by omega), if_pos (by omega), if_pos (by omega), rd_get57 l i (by omega), if_neg (fun e => h ((ba_iffL _ _).1 e)), wl i (by omega)]
theorem of_ev (x : ByteArray) (l : List S57) (hl : l.length ≤ 9223372036854775806) : Ev (fun k => quant_Of.f k l x) (ofL x l) := of_l0 x l hl l.length 0 (by omega)
theorem refOf_l0 (x : ByteArray) (l : List S57) (hl : l.length ≤ 9223372036854775806) : ∀ (m i : Nat), i + m = l.length → Ev (fun k => bursarref03_Of.l0 k l x (i : Int)) (ofL x (l.drop i)) := by
  intro m
  induction m with
  | zero =>
    intro i hi
    rw [List.drop_eq_nil_of_le (by omega)]
    refine Ev.step (f := fun _ => some (0, false)) (fun k => ?_) (Ev.now _)
    simp only [bursarref03_Of.l0]
    rw [if_neg (by omega)]
  | succ m ih =>
    intro i hi
    rw [List.drop_eq_getElem_cons (by omega), ofL]
    by_cases h : (l[i]'(by omega)).f0 = x
    · rw [if_pos h]
      refine Ev.step (f := fun _ => some ((l[i]'(by omega)).f1, true)) (fun k => ?_) (Ev.now _)
      simp only [bursarref03_Of.l0]
      rw [if_pos (by omega), if_pos (by omega), rd_get57 l i (by omega), if_pos ((ba_iffL _ _).2 h)]
    · rw [if_neg h]
      refine Ev.step (fun k => ?_) (ih (i + 1) (by omega))
      simp only [bursarref03_Of.l0]
      rw [if_pos (by omega), if_pos (by omega), rd_get57 l i (by omega), if_neg (fun e => h ((ba_iffL _ _).1 e)), wl i (by omega)]
theorem refOf_ev (x : ByteArray) (l : List S57) (hl : l.length ≤ 9223372036854775806) : Ev (fun k => bursarref03_Of.f k l x) (ofL x l) := refOf_l0 x l hl l.length 0 (by omega)
theorem same_l0 (l : List S57) (hl : l.length ≤ 9223372036854775806) : ∀ (m i : Nat), i + m = l.length → Ev (fun k => bursarlaw03_same.l0 k l l (i : Int)) true := by
  intro m
  induction m with
  | zero =>
    intro i hi
    refine Ev.step (f := fun _ => some true) (fun k => ?_) (Ev.now _)
    simp only [bursarlaw03_same.l0]
    rw [if_neg (by omega)]
  | succ m ih =>
    intro i hi
    refine Ev.step (fun k => ?_) (ih (i + 1) (by omega))
    simp only [bursarlaw03_same.l0]
    rw [if_pos (by omega), if_pos (by omega), if_pos (by omega), beq_self_eq_true, beq_self_eq_true, if_neg (by decide), wl i (by omega)]
theorem same_refl (l : List S57) (hl : l.length ≤ 9223372036854775806) : Ev (fun k => bursarlaw03_same.f k l l) true :=
  Ev.congr (fun k => if_pos rfl) (same_l0 l hl l.length 0 (by omega))
theorem behind_is (l : List S57) (hl : l.length ≤ 4000000000) : bursarlaw03_behind.f l = some (l ++ [markS]) := if_pos hl
theorem behind_take (l : List S57) : (l ++ [markS]).take ((l.length : Int) : Int).toNat = l := by rw [Int.toNat_natCast, List.take_left' rfl]
theorem untouched_ev (l : List S57) (hl : l.length ≤ 4000000000) : Ev (fun k => bursarlaw03_untouched.f k (l ++ [markS]) l) true := by
  have e : rd_T57 (l ++ [markS]) (l.length : Int) = markS := by
    rw [rd_get57 _ l.length (by simp)]
    simp
  refine Ev.congr (f := fun k => (bursarlaw03_same.f k l l).bind fun t => if t = true then some ((markS).f0.toList == (⟨#[109, 97, 114, 107]⟩ : ByteArray).toList && (markS.f1 == 77)) else some false) (fun k => ?_) (Ev.bind (same_refl l (by omega)) (Ev.congr (f := fun _ => some true) (fun k => by rw [if_pos rfl, show markS.f0 = (⟨#[109, 97, 114, 107]⟩ : ByteArray) from rfl, beq_self_eq_true]; rfl) (Ev.now _)))
  unfold bursarlaw03_untouched.f
  rw [if_neg (by omega), if_pos (by simp), e, List.take_left' rfl]
end Go.Proofs.YtejgbdclhlolkaaGreatDoor.Q
namespace Go.Proofs.YtejgbdclhlolkaaGreatDoor.Q
open Go.RowKit Go.Proofs.YtejgbdclhlolkaaGreatDoorW.PrintWords Go.Proofs.YtejgbdclhlolkaaGreatDoorW.PrintLast
set_option linter.unusedVariables false
set_option linter.unusedSimpArgs false
def edgeB (c : Int) : Bool := (decide (97 ≤ c) && decide (c ≤ 122)) || (decide (48 ≤ c) && decide (c ≤ 57))
theorem edge_is (c : Int) : quant_edge.f c = some (edgeB c) := by
  unfold quant_edge.f edgeB
  by_cases h1 : c ≥ 97
  · rw [if_pos h1, decide_eq_true (show 97 ≤ c from h1)]
    by_cases h2 : c ≤ 122
    · rw [if_pos h2, decide_eq_true h2]; rfl
    · rw [if_neg h2, if_pos (show c ≥ 48 by omega), decide_eq_false h2, decide_eq_false (show ¬ c ≤ 57 by omega)]; simp
  · rw [if_neg h1, decide_eq_false (show ¬ 97 ≤ c from h1)]
    by_cases h2 : c ≥ 48
    · rw [if_pos h2, decide_eq_true (show 48 ≤ c from h2)]; simp
    · rw [if_neg h2, decide_eq_false (show ¬ 48 ≤ c from h2)]; simp
def innerB (p : ByteArray) (i : Nat) : Bool := edgeB (bt p (i : Int)) || decide (bt p (i : Int) = 45)
def allFrom (p : ByteArray) : Nat → Nat → Bool
  | 0, _ => true
  | m + 1, i => innerB p i && allFrom p m (i + 1)
def pieceB (p : ByteArray) : Bool := !(p.toList == ([] : List UInt8)) && edgeB (bt p 0) && edgeB (bt p ((p.size : Int) - 1)) && allFrom p p.size 0
def piecesOf (s : ByteArray) : List ByteArray := Lib.splitB (⟨#[46]⟩ : ByteArray) 0 (Lib.countB s (⟨#[46]⟩ : ByteArray)) s
def resP (s : ByteArray) : Bool := decide (s.size ≤ 48) && (piecesOf s).all pieceB
theorem rd_ba (l : List ByteArray) (i : Nat) (h : i < l.length) : rdOf ByteArray.empty l (i : Int) = l[i] := by simp [rdOf, List.getD_eq_getElem?_getD, h]
theorem empty_iffR (p : ByteArray) : p.toList = ([] : List UInt8) ↔ p.size = 0 := by rw [ByteArray.toList_eq, Lib.size_eq, List.length_eq_zero_iff]
theorem res_l1 (ps : List ByteArray) (len i : Int) (p : ByteArray) (hp : p.size < 4611686018427387904) (r : Bool) (hK : Ev (fun k => quant_resource.l0 k ps len (wrap64 (i + 1))) r) :
    ∀ (m j : Nat), j + m = p.size → Ev (fun k => quant_resource.l1 k p ps len i (p.size : Int) (j : Int)) (allFrom p m j && r) := by
  intro m
  induction m with
  | zero =>
    intro j hj
    refine Ev.step (fun k => ?_) hK
    simp only [quant_resource.l1]
    rw [if_neg (by omega)]
  | succ m ih =>
    intro j hj
    have key := ih (j + 1) (by omega)
    have hw : wrap64 ((j : Int) + 1) = ((j + 1 : Nat) : Int) := wl j (by omega)
    rw [allFrom]
    cases hi : innerB p j with
    | true =>
      rw [Bool.true_and]
      refine Ev.step (fun k => ?_) key
      simp only [quant_resource.l1]
      rw [if_pos (by omega), if_pos (by omega), if_pos (by omega), edge_is, Option.bind_some, hw]
      unfold innerB at hi
      cases he : edgeB (bt p (j : Int)) with
      | true => rw [if_pos rfl]
      | false =>
        rw [he, Bool.false_or, decide_eq_true_eq] at hi
        rw [if_neg Bool.false_ne_true, if_pos hi]
    | false =>
      rw [Bool.false_and, Bool.false_and]
      refine Ev.step (f := fun _ => some false) (fun k => ?_) (Ev.now _)
      unfold innerB at hi
      rw [Bool.or_eq_false_iff, decide_eq_false_iff_not] at hi
      simp only [quant_resource.l1]
      rw [if_pos (by omega), if_pos (by omega), if_pos (by omega), edge_is, Option.bind_some, hi.1, if_neg Bool.false_ne_true, if_neg hi.2]
theorem res_l0 (ps : List ByteArray) (hl : ps.length < 4611686018427387904) (hs : ∀ p ∈ ps, p.size < 4611686018427387904) :
    ∀ (m i : Nat), i + m = ps.length → Ev (fun k => quant_resource.l0 k ps (ps.length : Int) (i : Int)) ((ps.drop i).all pieceB) := by
  intro m
  induction m with
  | zero =>
    intro i hi
    rw [List.drop_eq_nil_of_le (by omega)]
    refine Ev.step (f := fun _ => some true) (fun k => ?_) (Ev.now _)
    simp only [quant_resource.l0]
    rw [if_neg (by omega)]
  | succ m ih =>
    intro i hi
    have hil : i < ps.length := by omega
    have key := ih (i + 1) (by omega)
    have hw : wrap64 ((i : Int) + 1) = ((i + 1 : Nat) : Int) := wl i (by omega)
    rw [← hw] at key
    have hps := hs ps[i] (List.getElem_mem hil)
    have l1 := res_l1 ps (ps.length : Int) (i : Int) ps[i] hps _ key (ps[i]).size 0 (by omega)
    rw [List.drop_eq_getElem_cons hil, List.all_cons]
    clear hw key
    have hnext : ∀ b : Bool, Ev (fun k => quant_resource.j1 k ps[i] ps (ps.length : Int) (i : Int) b) (if b = true then false else allFrom ps[i] (ps[i]).size 0 && (ps.drop (i + 1)).all pieceB) := by
      intro b
      cases b with
      | true => exact Ev.step (f := fun _ => some false) (fun k => by simp only [quant_resource.j1]; rw [if_pos trivial]) (Ev.now _)
      | false => exact Ev.step (fun k => by simp only [quant_resource.j1]; rw [if_neg Bool.false_ne_true]; rfl) l1
    have hhead : ∀ k, quant_resource.l0 (k + 1) ps (ps.length : Int) (i : Int) = if (ps[i]).toList = ([] : List UInt8) then (quant_resource.j1 k ps[i] ps (ps.length : Int) (i : Int) true) else (if 0 < ((ps[i]).size : Int) then ((quant_edge.f (bt ps[i] 0)).bind fun t450 => (if t450 = true then (if 0 ≤ (wrap64 (((ps[i]).size : Int) - 1)) then (if (wrap64 (((ps[i]).size : Int) - 1)) < ((ps[i]).size : Int) then ((quant_edge.f (bt ps[i] (wrap64 (((ps[i]).size : Int) - 1)))).bind fun t451 => (quant_resource.j1 k ps[i] ps (ps.length : Int) (i : Int) (!t451))) else (none)) else (none)) else (quant_resource.j1 k ps[i] ps (ps.length : Int) (i : Int) true))) else (none)) := by
      intro k
      simp only [quant_resource.l0]
      rw [if_pos (by omega), if_pos (by omega), if_pos (by omega), rd_ba ps i hil]
    generalize ps[i] = p at *
    unfold pieceB
    by_cases h0 : p.toList = ([] : List UInt8)
    · rw [h0, beq_self_eq_true, Bool.not_true, Bool.false_and, Bool.false_and, Bool.false_and, Bool.false_and]
      exact Ev.step (fun k => by rw [hhead, if_pos h0]) (hnext true)
    · have hpos : 0 < p.size := by rw [empty_iffR] at h0; omega
      have hb : (p.toList == ([] : List UInt8)) = false := beq_eq_false_iff_ne.2 h0
      have hw1 : wrap64 ((p.size : Int) - 1) = (p.size : Int) - 1 := by unfold wrap64; omega
      rw [hb, Bool.not_false, Bool.true_and]
      cases he : edgeB (bt p 0) with
      | false =>
        rw [Bool.false_and, Bool.false_and, Bool.false_and]
        exact Ev.step (fun k => by rw [hhead, if_neg h0, if_pos (by omega), edge_is, Option.bind_some, he, if_neg Bool.false_ne_true]) (hnext true)
      | true =>
        rw [Bool.true_and]
        have hn := hnext (!edgeB (bt p ((p.size : Int) - 1)))
        have e : (if (!edgeB (bt p ((p.size : Int) - 1))) = true then false else allFrom p p.size 0 && (ps.drop (i + 1)).all pieceB) = (edgeB (bt p ((p.size : Int) - 1)) && allFrom p p.size 0 && (ps.drop (i + 1)).all pieceB) := by
          cases edgeB (bt p ((p.size : Int) - 1)) <;> simp
        rw [e] at hn
        exact Ev.step (fun k => by rw [hhead, if_neg h0, if_pos (by omega), edge_is, Option.bind_some, he, if_pos rfl, hw1, if_pos (by omega), if_pos (by omega), edge_is, Option.bind_some]) hn
theorem split_le (sep : ByteArray) (save : Nat) : ∀ (k : Nat) (s : ByteArray), ∀ p ∈ Lib.splitB sep save k s, p.size ≤ s.size
  | 0, s, p, hp => by rw [Lib.splitB_zero, List.mem_singleton] at hp; rw [hp]; exact Nat.le_refl _
  | k + 1, s, p, hp => by
    unfold Lib.splitB at hp
    split at hp
    · rw [List.mem_singleton] at hp; rw [hp]; exact Nat.le_refl _
    · rcases List.mem_cons.1 hp with hp | hp
      · rw [hp, ByteArray.size_extract]; omega
      · have := split_le sep save k _ p hp
        rw [ByteArray.size_extract] at this
        omega
theorem resource_ev (s : ByteArray) (hs : s.size < 4611686018427387904) : Ev (fun k => quant_resource.f k s) (resP s) := by
  unfold resP
  by_cases h : 48 < s.size
  · rw [decide_eq_false (by omega), Bool.false_and]
    exact Ev.congr (f := fun _ => some false) (fun k => by unfold quant_resource.f; rw [if_pos (by omega)]) (Ev.now _)
  · rw [decide_eq_true (by omega), Bool.true_and]
    have hf : strings_Split.f s (⟨#[46]⟩ : ByteArray) = some (piecesOf s) := by unfold strings_Split.f; exact if_pos ⟨by omega, by decide⟩
    have hc := Lib.countB_le (⟨#[46]⟩ : ByteArray) (by decide) s.size s (Nat.le_refl _)
    have hl : (piecesOf s).length = Lib.countB s (⟨#[46]⟩ : ByteArray) + 1 := Lib.splitB_all (⟨#[46]⟩ : ByteArray) (by decide) 0 _ s rfl
    have key := res_l0 (piecesOf s) (by omega) (fun p hp => by have := split_le _ _ _ s p hp; omega) (piecesOf s).length 0 (by omega)
    refine Ev.congr (fun k => ?_) key
    unfold quant_resource.f
    rw [if_neg (by omega), hf, Option.bind_some]
    rfl
theorem resP_size {s : ByteArray} (h : resP s = true) : s.size ≤ 48 := by
  unfold resP at h
  rw [Bool.and_eq_true, decide_eq_true_eq] at h
  exact h.1
def okPrev (p : Option ByteArray) (x : ByteArray) : Bool := match p with | none => true | some q => nless q x
theorem okPrev_none (x : ByteArray) : okPrev none x = true := rfl
theorem okPrev_some (q x : ByteArray) : okPrev (some q) x = nless q x := rfl
def stepV : Option ByteArray → List S57 → Bool
  | _, [] => true
  | p, a :: r => resP a.f0 && decide (0 ≤ a.f1) && okPrev p a.f0 && stepV (some a.f0) r
theorem stepV_cons (p : Option ByteArray) (a : S57) (r : List S57) : stepV p (a :: r) = (resP a.f0 && decide (0 ≤ a.f1) && okPrev p a.f0 && stepV (some a.f0) r) := rfl
def validB (l : List S57) : Bool := stepV none l
def validP (l : List S57) : Int := if 16 < l.length then 23 else if validB l = true then 0 else 31
def prevOf (l : List S57) (i : Nat) : Option ByteArray := if i = 0 then none else (l[i - 1]?).map (·.f0)
theorem less_toList (x y : ByteArray) : Op.bytesLess x.toList y.toList = nless x y := by rw [ByteArray.toList_eq, ByteArray.toList_eq]; rfl
theorem valid_l0 (l : List S57) (hl : l.length ≤ 1000000) (hs : ∀ a ∈ l, a.f0.size < 4611686018427387904) : ∀ (m i : Nat), i + m = l.length → Ev (fun k => quant_Valid.l0 k l l (l.length : Int) (i : Int)) (if stepV (prevOf l i) (l.drop i) = true then 0 else 31) := by
  intro m
  induction m with
  | zero =>
    intro i hi
    rw [List.drop_eq_nil_of_le (by omega), stepV, if_pos rfl]
    refine Ev.step (f := fun _ => some 0) (fun k => ?_) (Ev.now _)
    simp only [quant_Valid.l0]
    rw [if_neg (by omega)]
  | succ m ih =>
    intro i hi
    have hil : i < l.length := by omega
    have key := ih (i + 1) (by omega)
    have hp1 : prevOf l (i + 1) = some (l[i]).f0 := by unfold prevOf; rw [if_neg (by omega), Nat.add_sub_cancel, List.getElem?_eq_getElem hil]; rfl
    have hre := resource_ev (l[i]).f0 (hs _ (List.getElem_mem hil))
    have hr0 := rd_get57 l i hil
    rw [hp1] at key
    rw [List.drop_eq_getElem_cons hil, stepV_cons]
    have hno : ∀ c : Bool, c = false → (if c = true then (0 : Int) else 31) = 31 := fun c h => by rw [h]; rfl
    refine Ev.step (f := fun k => (quant_resource.f k (l[i]).f0).bind fun t455 => (if t455 = true then (if (l[i]).f1 < 0 then (some 31) else (if (i : Int) > 0 then (if 0 ≤ (wrap64 ((i : Int) - 1)) then (if (wrap64 ((i : Int) - 1)) < (l.length : Int) then (if ((Op.bytesLess (((rd_T57 l (wrap64 ((i : Int) - 1))).f0).toList) (((l[i]).f0).toList)) = true) then (quant_Valid.l0 k l l (l.length : Int) (wrap64 ((i : Int) + 1))) else (some 31)) else (none)) else (none)) else (quant_Valid.l0 k l l (l.length : Int) (wrap64 ((i : Int) + 1))))) else (some 31))) (fun k => ?_) (Ev.bind hre ?_)
    · simp only [quant_Valid.l0]
      rw [if_pos (by omega), if_pos (by omega), if_pos (by omega), hr0]
    · cases hres : resP (l[i]).f0 with
      | false => exact Ev.congr (fun k => if_neg Bool.false_ne_true) (by rw [Bool.false_and, Bool.false_and, Bool.false_and]; exact Ev.now _)
      | true =>
        refine Ev.congr (fun k => if_pos rfl) ?_
        rw [Bool.true_and]
        by_cases hneg : (l[i]).f1 < 0
        · rw [decide_eq_false (by omega), Bool.false_and, Bool.false_and]
          exact Ev.congr (fun k => if_pos hneg) (Ev.now _)
        · rw [decide_eq_true (by omega), Bool.true_and]
          refine Ev.congr (fun k => if_neg hneg) ?_
          by_cases h0 : i = 0
          · have hp0 : prevOf l i = none := by unfold prevOf; rw [if_pos h0]
            rw [hp0, okPrev_none, Bool.true_and]
            refine Ev.congr (fun k => if_neg (by omega)) ?_
            rw [wl i (by omega)]
            exact key
          · have hp0 : prevOf l i = some (l[i - 1]'(by omega)).f0 := by unfold prevOf; rw [if_neg h0, List.getElem?_eq_getElem (by omega)]; rfl
            have hw1 : wrap64 ((i : Int) - 1) = ((i - 1 : Nat) : Int) := by unfold wrap64; omega
            rw [hp0]
            refine Ev.congr (fun k => if_pos (by omega)) ?_
            rw [hw1, rd_get57 l (i - 1) (by omega), less_toList, wl i (by omega)]
            refine Ev.congr (fun k => if_pos (by omega)) (Ev.congr (fun k => if_pos (by omega)) ?_)
            cases hlt : nless (l[i - 1]'(by omega)).f0 (l[i]).f0 with
            | true =>
              refine Ev.congr (fun k => if_pos rfl) ?_
              rw [okPrev_some, hlt, Bool.true_and]
              exact key
            | false =>
              refine Ev.congr (fun k => if_neg Bool.false_ne_true) ?_
              rw [okPrev_some, hlt, Bool.false_and]
              exact Ev.now _
theorem valid_ev (l : List S57) (hl : l.length ≤ 1048576) (hs : ∀ a ∈ l, a.f0.size < 4611686018427387904) : Ev (fun k => quant_Valid.f k l) (validP l) := by
  unfold validP validB
  by_cases h : 16 < l.length
  · rw [if_pos h]
    exact Ev.congr (f := fun _ => some 23) (fun k => by unfold quant_Valid.f; rw [if_pos (by omega)]) (Ev.now _)
  · rw [if_neg h]
    have key := valid_l0 l (by omega) hs l.length 0 (by omega)
    rw [show prevOf l 0 = none from rfl, List.drop_zero] at key
    refine Ev.congr (fun k => ?_) key
    unfold quant_Valid.f
    rw [if_neg (by omega)]
    rfl
theorem both_ev (a b : List S57) (ha : a.length ≤ 1048576) (hb : b.length ≤ 1048576) (hsa : ∀ x ∈ a, x.f0.size < 4611686018427387904) (hsb : ∀ x ∈ b, x.f0.size < 4611686018427387904) : Ev (fun k => quant_valid.f k a b) (decide (validP a = 0) && decide (validP b = 0)) := by
  refine Ev.bind (valid_ev a ha hsa) ?_
  by_cases h : validP a = 0
  · rw [decide_eq_true h, Bool.true_and]
    refine Ev.congr (fun k => if_pos h) (Ev.bind (valid_ev b hb hsb) ?_)
    refine Ev.congr (f := fun _ => some (decide (validP b = 0))) (fun k => ?_) (Ev.now _)
    congr 1
  · rw [decide_eq_false h, Bool.false_and]
    exact Ev.congr (fun k => if_neg h) (Ev.now _)
theorem step_rises : ∀ (l : List S57) (p : Option ByteArray), stepV p l = true → Rises l ∧ (∀ y ∈ l, resP y.f0 = true ∧ 0 ≤ y.f1) ∧ (∀ q, p = some q → ∀ y ∈ l, nless q y.f0 = true)
  | [], p, _ => ⟨List.Pairwise.nil, by simp, by simp⟩
  | a :: r, p, h => by
    rw [stepV_cons, Bool.and_eq_true, Bool.and_eq_true, Bool.and_eq_true, decide_eq_true_eq] at h
    obtain ⟨⟨⟨h1, h2⟩, h3⟩, h4⟩ := h
    obtain ⟨i1, i2, i3⟩ := step_rises r (some a.f0) h4
    refine ⟨rises_cons.2 ⟨i3 _ rfl, i1⟩, fun y hy => ?_, fun q hq y hy => ?_⟩
    · rcases List.mem_cons.1 hy with rfl | hy
      · exact ⟨h1, h2⟩
      · exact i2 y hy
    · subst hq
      rcases List.mem_cons.1 hy with rfl | hy
      · exact h3
      · exact nless_trans h3 (i3 _ rfl y hy)
theorem rises_step : ∀ (l : List S57) (p : Option ByteArray), Rises l → (∀ y ∈ l, resP y.f0 = true ∧ 0 ≤ y.f1) → (∀ q, p = some q → ∀ y ∈ l, nless q y.f0 = true) → stepV p l = true
  | [], p, _, _, _ => rfl
  | a :: r, p, h1, h2, h3 => by
    obtain ⟨i1, i2⟩ := rises_cons.1 h1
    have ha := h2 a (by simp)
    rw [stepV_cons, Bool.and_eq_true, Bool.and_eq_true, Bool.and_eq_true, decide_eq_true_eq]
    refine ⟨⟨⟨ha.1, ha.2⟩, ?_⟩, rises_step r (some a.f0) i2 (fun y hy => h2 y (by simp [hy])) (fun q hq y hy => by cases hq; exact i1 y hy)⟩
    cases p with
    | none => rfl
    | some q => exact h3 q rfl a (by simp)
theorem valid_iff (l : List S57) : validP l = 0 ↔ l.length ≤ 16 ∧ Rises l ∧ ∀ y ∈ l, resP y.f0 = true ∧ 0 ≤ y.f1 := by
  unfold validP validB
  by_cases h : 16 < l.length
  · rw [if_pos h]
    exact ⟨fun e => by omega, fun e => by omega⟩
  · rw [if_neg h]
    cases hs : stepV none l with
    | true =>
      rw [if_pos rfl]
      have := step_rises l none hs
      exact ⟨fun _ => ⟨by omega, this.1, this.2.1⟩, fun _ => rfl⟩
    | false =>
      rw [if_neg Bool.false_ne_true]
      refine ⟨fun e => by omega, fun e => ?_⟩
      have := rises_step l none e.2.1 e.2.2 (fun q hq => by cases hq)
      rw [hs] at this
      cases this
end Go.Proofs.YtejgbdclhlolkaaGreatDoor.Q
namespace Go.Proofs.YtejgbdclhlolkaaGreatDoor.Q
open Go.RowKit Go.Proofs.YtejgbdclhlolkaaGreatDoorW.PrintWords Go.Proofs.YtejgbdclhlolkaaGreatDoorW.PrintLast
set_option linter.unusedVariables false
set_option linter.unusedSimpArgs false
theorem digit_isR (c : Int) : bursarref03_digit.f c = some (decide (48 ≤ c) && decide (c ≤ 57)) := by
  unfold bursarref03_digit.f
  by_cases h : c ≥ 48
  · rw [if_pos h, decide_eq_true (show 48 ≤ c from h), Bool.true_and]
  · rw [if_neg h, decide_eq_false (show ¬ 48 ≤ c from h), Bool.false_and]
def okR (p : ByteArray) (i : Nat) : Bool := edgeB (bt p (i : Int)) || (decide (bt p (i : Int) = 45) && decide (i ≠ 0) && decide (i + 1 ≠ p.size))
def allR (p : ByteArray) : Nat → Nat → Bool
  | 0, _ => true
  | m + 1, i => okR p i && allR p m (i + 1)
theorem piece_l0 (p : ByteArray) (hp : p.size < 4611686018427387904) : ∀ m i : Nat, i + m = p.size → Ev (fun k => bursarref03_piece.l0 k p (i : Int)) (allR p m i && !(p.toList == ([] : List UInt8))) := by
  intro m
  induction m with
  | zero =>
    intro i hi
    refine Ev.step (f := fun _ => some (p.toList != ([] : List UInt8))) (fun k => ?_) (by rw [allR, Bool.true_and]; exact Ev.now _)
    simp only [bursarref03_piece.l0]
    rw [if_neg (by omega)]
  | succ m ih =>
    intro i hi
    have key := ih (i + 1) (by omega)
    have hw : wrap64 ((i : Int) + 1) = ((i + 1 : Nat) : Int) := wl i (by omega)
    have hw1 : wrap64 ((p.size : Int) - 1) = (p.size : Int) - 1 := by unfold wrap64; omega
    rw [← hw] at key
    have head : ∀ k, bursarref03_piece.l0 (k + 1) p (i : Int) = if okR p i = true then bursarref03_piece.l0 k p (wrap64 ((i : Int) + 1)) else some false := by
      intro k
      simp only [bursarref03_piece.l0]
      rw [if_pos (by omega), if_pos (by omega), digit_isR, Option.bind_some, hw1]
      unfold okR edgeB
      generalize bt p (i : Int) = c
      by_cases h1 : c ≥ 97
      · rw [if_pos h1]
        by_cases h2 : c ≤ 122
        · rw [if_pos h2, if_pos (by simp; omega)]
        · rw [if_neg h2, if_neg (by simp; omega), if_neg (by omega), if_neg (by simp; omega)]
      · rw [if_neg h1]
        by_cases h2 : 48 ≤ c ∧ c ≤ 57
        · rw [if_pos (by simp; omega), if_pos (by simp; omega)]
        · rw [if_neg (by simp; omega)]
          by_cases h3 : c = 45
          · rw [if_pos h3]
            by_cases h4 : i = 0
            · rw [if_pos (by omega), if_neg (by simp; omega)]
            · rw [if_neg (by omega)]
              by_cases h5 : i + 1 = p.size
              · rw [if_pos (by omega), if_neg (by simp; omega)]
              · rw [if_neg (by omega), if_pos (by simp; omega)]
          · rw [if_neg h3, if_neg (by simp; omega)]
    rw [allR]
    cases h : okR p i with
    | true => rw [Bool.true_and]; exact Ev.step (fun k => by rw [head, if_pos h]) key
    | false => rw [Bool.false_and, Bool.false_and]; exact Ev.step (f := fun _ => some false) (fun k => by rw [head, if_neg (by rw [h]; decide)]) (Ev.now _)
theorem allR_iff (p : ByteArray) : ∀ m i : Nat, allR p m i = true ↔ ∀ j, i ≤ j → j < i + m → okR p j = true
  | 0, i => ⟨fun _ j h1 h2 => by omega, fun _ => rfl⟩
  | m + 1, i => by
    rw [allR, Bool.and_eq_true, allR_iff p m (i + 1)]
    constructor
    · rintro ⟨h, h'⟩ j h1 h2
      by_cases e : j = i
      · rw [e]; exact h
      · exact h' j (by omega) (by omega)
    · intro h
      exact ⟨h i (by omega) (by omega), fun j h1 h2 => h j (by omega) (by omega)⟩
theorem allFrom_iff (p : ByteArray) : ∀ m i : Nat, allFrom p m i = true ↔ ∀ j, i ≤ j → j < i + m → innerB p j = true
  | 0, i => ⟨fun _ j h1 h2 => by omega, fun _ => rfl⟩
  | m + 1, i => by
    rw [allFrom, Bool.and_eq_true, allFrom_iff p m (i + 1)]
    constructor
    · rintro ⟨h, h'⟩ j h1 h2
      by_cases e : j = i
      · rw [e]; exact h
      · exact h' j (by omega) (by omega)
    · intro h
      exact ⟨h i (by omega) (by omega), fun j h1 h2 => h j (by omega) (by omega)⟩
theorem piece_same (p : ByteArray) : (allR p p.size 0 && !(p.toList == ([] : List UInt8))) = pieceB p := by
  unfold pieceB
  by_cases h0 : p.toList = ([] : List UInt8)
  · rw [h0]; simp
  · have hb : (p.toList == ([] : List UInt8)) = false := beq_eq_false_iff_ne.2 h0
    have hpos : 0 < p.size := by rw [empty_iffR] at h0; omega
    rw [hb, Bool.not_false, Bool.and_true, Bool.true_and, Bool.eq_iff_iff, Bool.and_eq_true, Bool.and_eq_true, allR_iff, allFrom_iff]
    have hlast : (p.size : Int) - 1 = ((p.size - 1 : Nat) : Int) := by omega
    constructor
    · intro h
      have h1 := h 0 (by omega) (by omega)
      have h2 := h (p.size - 1) (by omega) (by omega)
      unfold okR at h1 h2
      refine ⟨⟨by simpa using h1, ?_⟩, fun j h3 h4 => ?_⟩
      · rw [hlast]
        have e : decide (p.size - 1 + 1 ≠ p.size) = false := decide_eq_false (by omega)
        rw [e, Bool.and_false, Bool.or_false] at h2
        exact h2
      · have := h j h3 h4
        unfold okR at this
        unfold innerB
        rw [Bool.or_eq_true] at this ⊢
        rcases this with h | h
        · exact .inl h
        · rw [Bool.and_eq_true, Bool.and_eq_true] at h; exact .inr h.1.1
    · rintro ⟨⟨h1, h2⟩, h3⟩ j h4 h5
      have := h3 j h4 h5
      unfold innerB at this
      unfold okR
      by_cases e0 : j = 0
      · subst e0; rw [Bool.or_eq_true]; exact .inl h1
      · by_cases e1 : j + 1 = p.size
        · have : j = p.size - 1 := by omega
          rw [Bool.or_eq_true, this, ← hlast]; exact .inl h2
        · rw [decide_eq_true e0, decide_eq_true e1, Bool.and_true, Bool.and_true]; exact this
theorem piece_ev (p : ByteArray) (hp : p.size < 4611686018427387904) : Ev (fun k => bursarref03_piece.f k p) (pieceB p) := by
  have h := piece_l0 p hp p.size 0 (by omega)
  rw [piece_same] at h
  exact h
theorem bt_byteR (s : ByteArray) (j : Nat) (h : j < s.size) (c : UInt8) : bt s (j : Int) = (c.toNat : Int) ↔ s.data.toList[j]? = some c := by
  have e : s.data.toList[j]? = some (s[j]'h) := by
    rw [Array.getElem?_toList, Array.getElem?_eq_getElem (show j < s.data.size from h)]; rfl
  rw [e]
  unfold bt
  rw [dif_pos (show ((j : Int)).toNat < s.size from h)]
  show (((s[j]'h).toNat : Nat) : Int) = _ ↔ _
  rw [Option.some.injEq, ← UInt8.toNat_inj]
  omega
theorem dropR (s : ByteArray) (a k : Nat) : (s.extract a s.size).data.toList[k]? = s.data.toList[a + k]? := by
  rw [Lib.extract_to_end, List.getElem?_drop]
theorem dot_index (s : ByteArray) (a o : Nat) (h1 : a + o < s.size) (h2 : bt s ((a + o : Nat) : Int) = 46) (h3 : ∀ j : Nat, a ≤ j → j < a + o → bt s (j : Int) ≠ 46) :
    Lib.indexB (s.extract a s.size) (⟨#[46]⟩ : ByteArray) = (o : Int) := by
  have g2 : (s.extract a s.size).data.toList[o]? = some 46 := by rw [dropR]; exact (bt_byteR s _ h1 46).1 h2
  have g3 : ∀ k, k < o → (s.extract a s.size).data.toList[k]? ≠ some 46 := fun k hk e => by
    rw [dropR] at e; exact h3 (a + k) (by omega) (by omega) ((bt_byteR s _ (by omega) 46).2 e)
  have hx : Lib.indexB (s.extract a s.size) (⟨#[46]⟩ : ByteArray) = Lib.indexByte (s.extract a s.size).data.toList 46 := Lib.index_one _ _
  rcases Lib.indexB_cases (s.extract a s.size) (⟨#[46]⟩ : ByteArray) with h | ⟨i, h, _⟩
  · rw [hx] at h; exact absurd g2 (Lib.indexByte_none h o)
  · rw [h]
    rw [hx] at h
    obtain ⟨b1, b2⟩ := Lib.indexByte_some h
    rcases Nat.lt_trichotomy i o with hlt | he | hgt
    · exact absurd b1 (g3 i hlt)
    · rw [he]
    · exact absurd g2 (b2 o hgt)
theorem dot_none (s : ByteArray) (a : Nat) (h3 : ∀ j : Nat, a ≤ j → j < s.size → bt s (j : Int) ≠ 46) : Lib.indexB (s.extract a s.size) (⟨#[46]⟩ : ByteArray) = -1 := by
  have hx : Lib.indexB (s.extract a s.size) (⟨#[46]⟩ : ByteArray) = Lib.indexByte (s.extract a s.size).data.toList 46 := Lib.index_one _ _
  rcases Lib.indexB_cases (s.extract a s.size) (⟨#[46]⟩ : ByteArray) with h | ⟨i, h, hr⟩
  · exact h
  · rw [hx] at h
    obtain ⟨b1, b2⟩ := Lib.indexByte_some h
    rw [dropR] at b1
    have hi : a + i < s.size := by
      rw [ByteArray.size_extract] at hr
      have : (⟨#[46]⟩ : ByteArray).size = 1 := rfl
      omega
    exact absurd ((bt_byteR s _ hi 46).2 b1) (h3 _ (by omega) hi)
theorem pieces_miss (r : ByteArray) (h : Lib.indexB r (⟨#[46]⟩ : ByteArray) = -1) : piecesOf r = [r] := Lib.splitB_miss _ _ _ _ h
theorem pieces_hit (r : ByteArray) (i : Nat) (h : Lib.indexB r (⟨#[46]⟩ : ByteArray) = i) : piecesOf r = r.extract 0 i :: piecesOf (r.extract (i + 1) r.size) := by
  unfold piecesOf
  rw [Lib.countB_hit r _ i (by decide) h, Nat.add_comm 1, Lib.splitB_hit _ _ _ _ i h]
  rfl
theorem ba_extR {a b : ByteArray} (h : a.data.toList = b.data.toList) : a = b := by
  cases a; cases b; simp only at h; congr 1; exact Array.toList_inj.1 h
theorem res_l0R (s : ByteArray) (hs : s.size < 4611686018427387904) : ∀ m i a : Nat, i + m = s.size → a ≤ i → (∀ j : Nat, a ≤ j → j < i → bt s (j : Int) ≠ 46) →
    Ev (fun k => bursarref03_Resource.l0 k s (a : Int) (i : Int)) (decide (s.size ≤ 48) && (piecesOf (s.extract a s.size)).all pieceB) := by
  intro m
  induction m with
  | zero =>
    intro i a hi ha hn
    have hp := pieces_miss _ (dot_none s a (fun j h1 h2 => hn j h1 (by omega)))
    rw [hp, List.all_cons, List.all_nil, Bool.and_true]
    by_cases h48 : s.size ≤ 48
    · rw [decide_eq_true h48, Bool.true_and]
      have key := piece_ev (s.extract a s.size) (by rw [ByteArray.size_extract]; omega)
      refine Ev.step (fun k => ?_) (Ev.bind key (Ev.now (pieceB (s.extract a s.size))))
      simp only [bursarref03_Resource.l0]
      rw [if_neg (by omega), if_pos (by omega), if_pos (by omega), if_pos (by omega)]
      rfl
    · rw [decide_eq_false h48, Bool.false_and]
      refine Ev.step (f := fun _ => some false) (fun k => ?_) (Ev.now _)
      simp only [bursarref03_Resource.l0]
      rw [if_neg (by omega), if_neg (by omega)]
  | succ m ih =>
    intro i a hi ha hn
    have hw : wrap64 ((i : Int) + 1) = ((i + 1 : Nat) : Int) := wl i (by omega)
    by_cases hd : bt s (i : Int) = 46
    · have hx := dot_index s a (i - a) (by omega) (by rw [show a + (i - a) = i by omega]; exact hd) (fun j h1 h2 => hn j h1 (by omega))
      have hp := pieces_hit _ _ hx
      have e1 : (s.extract a s.size).extract 0 (i - a) = s.extract a i := by
        apply ba_extR
        rw [Lib.extract_data, Lib.extract_to_end, Lib.extract_data]
        simp
      have e2 : (s.extract a s.size).extract (i - a + 1) (s.extract a s.size).size = s.extract (i + 1) s.size := by
        apply ba_extR
        rw [Lib.extract_to_end, Lib.extract_to_end, Lib.extract_to_end, List.drop_drop, show a + (i - a + 1) = i + 1 by omega]
      rw [e1, e2] at hp
      rw [hp, List.all_cons]
      have key := piece_ev (s.extract a i) (by rw [ByteArray.size_extract]; omega)
      have next := ih (i + 1) (i + 1) (by omega) (Nat.le_refl _) (fun j h1 h2 => by omega)
      rw [← hw] at next
      have head : ∀ k, bursarref03_Resource.l0 (k + 1) s (a : Int) (i : Int) = (bursarref03_piece.f k (s.extract a i)).bind fun t => if t = true then bursarref03_Resource.l0 k s (wrap64 ((i : Int) + 1)) (wrap64 ((i : Int) + 1)) else some false := by
        intro k
        simp only [bursarref03_Resource.l0]
        rw [if_pos (by omega), if_pos (by omega), if_pos hd, if_pos (by omega), if_pos (by omega), if_pos (by omega)]
        rfl
      cases hb : pieceB (s.extract a i) with
      | true =>
        rw [Bool.true_and]
        rw [hb] at key
        exact Ev.step head (Ev.bind key (Ev.congr (fun k => if_pos rfl) next))
      | false =>
        rw [Bool.false_and, Bool.and_false]
        rw [hb] at key
        exact Ev.step head (Ev.bind key (Ev.congr (fun k => if_neg Bool.false_ne_true) (Ev.now _)))
    · have next := ih (i + 1) a (by omega) (by omega) (fun j h1 h2 => by
        by_cases e : j = i
        · rw [e]; exact hd
        · exact hn j h1 (by omega))
      rw [← hw] at next
      refine Ev.step (fun k => ?_) next
      simp only [bursarref03_Resource.l0]
      rw [if_pos (by omega), if_pos (by omega), if_neg hd]
theorem refResource_ev (s : ByteArray) (hs : s.size < 4611686018427387904) : Ev (fun k => bursarref03_Resource.f k s) (resP s) := by
  have h := res_l0R s hs s.size 0 0 (by omega) (Nat.le_refl _) (fun j h1 h2 => by omega)
  have e : s.extract 0 s.size = s := ByteArray.extract_zero_size
  rw [e] at h
  exact h
theorem refValid_l0 (l : List S57) (hl : l.length ≤ 1000000) (hs : ∀ a ∈ l, a.f0.size < 4611686018427387904) : ∀ (m i : Nat), i + m = l.length → Ev (fun k => bursarref03_Valid.l0 k l (i : Int)) (if stepV (prevOf l i) (l.drop i) = true then 0 else 31) := by
  intro m
  induction m with
  | zero =>
    intro i hi
    rw [List.drop_eq_nil_of_le (by omega), stepV, if_pos rfl]
    refine Ev.step (f := fun _ => some 0) (fun k => ?_) (Ev.now _)
    simp only [bursarref03_Valid.l0]
    rw [if_neg (by omega)]
  | succ m ih =>
    intro i hi
    have hil : i < l.length := by omega
    have key := ih (i + 1) (by omega)
    have hp1 : prevOf l (i + 1) = some (l[i]).f0 := by unfold prevOf; rw [if_neg (by omega), Nat.add_sub_cancel, List.getElem?_eq_getElem hil]; rfl
    have hre := refResource_ev (l[i]).f0 (hs _ (List.getElem_mem hil))
    have hr0 := rd_get57 l i hil
    rw [hp1] at key
    rw [List.drop_eq_getElem_cons hil, stepV_cons]
    have hno : ∀ c : Bool, c = false → (if c = true then (0 : Int) else 31) = 31 := fun c h => by rw [h]; rfl
    refine Ev.step (f := fun k => (bursarref03_Resource.f k (l[i]).f0).bind fun t455 => (if t455 = true then (if (l[i]).f1 < 0 then (some 31) else (if (i : Int) > 0 then (if 0 ≤ (wrap64 ((i : Int) - 1)) then (if (wrap64 ((i : Int) - 1)) < (l.length : Int) then (if ((Op.bytesLess (((rd_T57 l (wrap64 ((i : Int) - 1))).f0).toList) (((l[i]).f0).toList)) = true) then (bursarref03_Valid.l0 k l (wrap64 ((i : Int) + 1))) else (some 31)) else (none)) else (none)) else (bursarref03_Valid.l0 k l (wrap64 ((i : Int) + 1))))) else (some 31))) (fun k => ?_) (Ev.bind hre ?_)
    · simp only [bursarref03_Valid.l0]
      rw [if_pos (by omega), if_pos (by omega), hr0]
    · cases hres : resP (l[i]).f0 with
      | false => exact Ev.congr (fun k => if_neg Bool.false_ne_true) (by rw [Bool.false_and, Bool.false_and, Bool.false_and]; exact Ev.now _)
      | true =>
        refine Ev.congr (fun k => if_pos rfl) ?_
        rw [Bool.true_and]
        by_cases hneg : (l[i]).f1 < 0
        · rw [decide_eq_false (by omega), Bool.false_and, Bool.false_and]
          exact Ev.congr (fun k => if_pos hneg) (Ev.now _)
        · rw [decide_eq_true (by omega), Bool.true_and]
          refine Ev.congr (fun k => if_neg hneg) ?_
          by_cases h0 : i = 0
          · have hp0 : prevOf l i = none := by unfold prevOf; rw [if_pos h0]
            rw [hp0, okPrev_none, Bool.true_and]
            refine Ev.congr (fun k => if_neg (by omega)) ?_
            rw [wl i (by omega)]
            exact key
          · have hp0 : prevOf l i = some (l[i - 1]'(by omega)).f0 := by unfold prevOf; rw [if_neg h0, List.getElem?_eq_getElem (by omega)]; rfl
            have hw1 : wrap64 ((i : Int) - 1) = ((i - 1 : Nat) : Int) := by unfold wrap64; omega
            rw [hp0]
            refine Ev.congr (fun k => if_pos (by omega)) ?_
            rw [hw1, rd_get57 l (i - 1) (by omega), less_toList, wl i (by omega)]
            refine Ev.congr (fun k => if_pos (by omega)) (Ev.congr (fun k => if_pos (by omega)) ?_)
            cases hlt : nless (l[i - 1]'(by omega)).f0 (l[i]).f0 with
            | true =>
              refine Ev.congr (fun k => if_pos rfl) ?_
              rw [okPrev_some, hlt, Bool.true_and]
              exact key
            | false =>
              refine Ev.congr (fun k => if_neg Bool.false_ne_true) ?_
              rw [okPrev_some, hlt, Bool.false_and]
              exact Ev.now _
theorem refValid_ev (l : List S57) (hl : l.length ≤ 1048576) (hs : ∀ a ∈ l, a.f0.size < 4611686018427387904) : Ev (fun k => bursarref03_Valid.f k l) (validP l) := by
  unfold validP validB
  by_cases h : 16 < l.length
  · rw [if_pos h]
    exact Ev.congr (f := fun _ => some 23) (fun k => by unfold bursarref03_Valid.f; rw [if_pos (by omega)]) (Ev.now _)
  · rw [if_neg h]
    have key := refValid_l0 l (by omega) hs l.length 0 (by omega)
    rw [show prevOf l 0 = none from rfl, List.drop_zero] at key
    refine Ev.congr (fun k => ?_) key
    unfold bursarref03_Valid.f
    rw [if_neg (by omega)]
    rfl
end Go.Proofs.YtejgbdclhlolkaaGreatDoor.Q
namespace Go.Proofs.YtejgbdclhlolkaaGreatDoor.Q
open Go.RowKit Go.Proofs.YtejgbdclhlolkaaGreatDoorW.PrintWords Go.Proofs.YtejgbdclhlolkaaGreatDoorW.PrintLast Go.Proofs.YtejgbdclhlolkaaGreatDoorW.PrintMore
attribute [local go_sem] max2_int min2_int max_two min_two max_three min_three max_four min_four   -- for this text's walks alone
set_option linter.unusedVariables false
set_option linter.unusedSimpArgs false
def bursarref03_Long_minus.l0 : Nat → List Int → Int → Int → List Int → List Int → Option (List Int)
|0,_,_,_,_,_ => none
|k + 1,x5,x6,x7,x200000,x201000 => if x7 < (x200000.length : Int) then (if 0 ≤ x7 then ((bursarref03_Long_at.f x201000 x7).bind fun t203 => (if (wrap64 ((wrap64 ((rd x200000 x7) - t203)) - x6)) < 0 then (if x5.length < 17592186044416 then (bursarref03_Long_minus.l0 k (x5 ++ [wrap64 ((wrap64 ((wrap64 ((rd x200000 x7) - t203)) - x6)) + 10)]) 1 (wrap64 (x7 + 1)) x200000 x201000) else (none)) else (if x5.length < 17592186044416 then (bursarref03_Long_minus.l0 k (x5 ++ [wrap64 ((wrap64 ((rd x200000 x7) - t203)) - x6)]) 0 (wrap64 (x7 + 1)) x200000 x201000) else (none)))) else (none)) else ((bursarref03_cut.f k x5).bind fun t210 => (some t210))
def bursarref03_Long_minus.f (k : Nat) (l0_0 : List Int) (l1_0 : List Int) : Option (List Int) := bursarref03_Long_minus.l0 k ([] : List Int) 0 0 l0_0 l1_0
theorem bursarref03_Long_minus.mono_l : ∀ k, (∀ y0 y1 y2 y3 y4, LeO (bursarref03_Long_minus.l0 k y0 y1 y2 y3 y4) (bursarref03_Long_minus.l0 (k + 1) y0 y1 y2 y3 y4))
|0 => fun _ _ _ _ _ r h => by simp [bursarref03_Long_minus.l0] at h
|k + 1 => by
  have ih0:=bursarref03_Long_minus.mono_l k
  ·intro y0 y1 y2 y3 y4
   unfold bursarref03_Long_minus.l0
   repeat' first
  |(with_reducible exact ih0 _ _ _ _ _)
  |(with_reducible exact bursarref03_cut.mono _ _)
  |(with_reducible exact LeO.refl _)
  |(with_reducible exact LeO.none _)
  |(with_reducible refine LeO.ite ?_ ?_)
  |(with_reducible refine LeO.bind ?_ (fun _ => ?_))
  |exact ih0 _ _ _ _ _
  |exact bursarref03_cut.mono _ _
  |exact LeO.none _
  |refine LeO.ite ?_ ?_
  |refine LeO.bind ?_ (fun _ => ?_)
theorem bursarref03_Long_minus.mono : ∀ a0 a1 k, LeO (bursarref03_Long_minus.f k a0 a1) (bursarref03_Long_minus.f (k + 1) a0 a1) := by
 intro a0 a1 k
 have ih0:=bursarref03_Long_minus.mono_l k
 unfold bursarref03_Long_minus.f
 repeat' first
  |(with_reducible exact ih0 _ _ _ _ _)
  |(with_reducible exact bursarref03_cut.mono _ _)
  |(with_reducible exact LeO.refl _)
  |(with_reducible exact LeO.none _)
  |(with_reducible refine LeO.ite ?_ ?_)
  |(with_reducible refine LeO.bind ?_ (fun _ => ?_))
  |exact ih0 _ _ _ _ _
  |exact bursarref03_cut.mono _ _
  |exact LeO.none _
  |refine LeO.ite ?_ ?_
  |refine LeO.bind ?_ (fun _ => ?_)
end Go.Proofs.YtejgbdclhlolkaaGreatDoor.Q
namespace Go.Proofs.YtejgbdclhlolkaaGreatDoor.Q
open Go.RowKit Go.Proofs.YtejgbdclhlolkaaGreatDoorW.PrintWords Go.Proofs.YtejgbdclhlolkaaGreatDoorW.PrintLast Go.Proofs.YtejgbdclhlolkaaGreatDoorW.PrintMore
attribute [local go_sem] max2_int min2_int max_two min_two max_three min_three max_four min_four   -- for this text's walks alone
set_option linter.unusedVariables false
set_option linter.unusedSimpArgs false
mutual
def bursarref03_Long_by.l0 : Nat → List Int → Int → List Int → List Int → List Int → Option (List Int × List Int)
|0,_,_,_,_,_ => none
|k + 1,x6,x8,x214000,x215000,x221000 => if x8 ≥ 0 then (if 0 ≤ x8 then (if x8 < (x214000.length : Int) then (if ([] : List Int).length < 17592186044416 then ((some (([] : List Int) ++ [rd x214000 x8] : List Int)).bind fun y225 => (if y225.length + x221000.length < 17592186044416 then ((bursarref03_cut.f k (y225 ++ x221000)).bind fun t231 => (bursarref03_Long_by.l1 k x6 x8 x214000 x215000 t231)) else (none))) else (none)) else (none)) else (none)) else ((bursarref03_cut.f k x6).bind fun t221 => (some (t221,x221000)))
def bursarref03_Long_by.l1 : Nat → List Int → Int → List Int → List Int → List Int → Option (List Int × List Int)
|0,_,_,_,_,_ => none
|k + 1,x6,x8,x214000,x215000,x221000 => (bursarref03_Long_less.f k x221000 x215000).bind fun t234 => (if t234 = true then (bursarref03_Long_by.l0 k x6 (wrap64 (x8 - 1)) x214000 x215000 x221000) else ((bursarref03_Long_minus.f k x221000 x215000).bind fun t235 => (if 0 ≤ x8 then (if x8 < (x6.length : Int) then (bursarref03_Long_by.l1 k (x6.set (x8 : Int).toNat (wrap64 ((rd x6 x8) + 1))) x8 x214000 x215000 t235) else (none)) else (none))))
end
def bursarref03_Long_by.f (k : Nat) (l0_0 : List Int) (l1_0 : List Int) : Option (List Int × List Int) := if 0 ≤ (l0_0.length : Int) then (if ((l0_0.length : Int) : Int).toNat ≤ 35184372088832 then (bursarref03_Long_by.l0 k (List.replicate ((l0_0.length : Int) : Int).toNat 0) (wrap64 ((l0_0.length : Int) - 1)) l0_0 l1_0 ([] : List Int)) else (none)) else (none)
theorem bursarref03_Long_by.mono_l : ∀ k, (∀ y0 y1 y2 y3 y4, LeO (bursarref03_Long_by.l0 k y0 y1 y2 y3 y4) (bursarref03_Long_by.l0 (k + 1) y0 y1 y2 y3 y4)) ∧ (∀ y0 y1 y2 y3 y4, LeO (bursarref03_Long_by.l1 k y0 y1 y2 y3 y4) (bursarref03_Long_by.l1 (k + 1) y0 y1 y2 y3 y4))
|0 => ⟨fun _ _ _ _ _ r h => by simp [bursarref03_Long_by.l0] at h,fun _ _ _ _ _ r h => by simp [bursarref03_Long_by.l1] at h⟩
|k + 1 => by
  obtain ⟨ih0,ih1⟩:=bursarref03_Long_by.mono_l k
  refine ⟨?_,?_⟩
  ·intro y0 y1 y2 y3 y4
   unfold bursarref03_Long_by.l0
   repeat' first
  |(with_reducible exact ih0 _ _ _ _ _)
  |(with_reducible exact ih1 _ _ _ _ _)
  |(with_reducible exact bursarref03_Long_less.mono _ _ _)
  |(with_reducible exact bursarref03_Long_minus.mono _ _ _)
  |(with_reducible exact bursarref03_cut.mono _ _)
  |(with_reducible exact LeO.refl _)
  |(with_reducible exact LeO.none _)
  |(with_reducible refine LeO.ite ?_ ?_)
  |(with_reducible refine LeO.bind ?_ (fun _ => ?_))
  |exact ih0 _ _ _ _ _
  |exact ih1 _ _ _ _ _
  |exact bursarref03_Long_less.mono _ _ _
  |exact bursarref03_Long_minus.mono _ _ _
  |exact bursarref03_cut.mono _ _
  |exact LeO.none _
  |refine LeO.ite ?_ ?_
  |refine LeO.bind ?_ (fun _ => ?_)
  ·intro y0 y1 y2 y3 y4
   unfold bursarref03_Long_by.l1
   repeat' first
  |(with_reducible exact ih0 _ _ _ _ _)
  |(with_reducible exact ih1 _ _ _ _ _)
  |(with_reducible exact bursarref03_Long_less.mono _ _ _)
  |(with_reducible exact bursarref03_Long_minus.mono _ _ _)
  |(with_reducible exact bursarref03_cut.mono _ _)
  |(with_reducible exact LeO.refl _)
  |(with_reducible exact LeO.none _)
  |(with_reducible refine LeO.ite ?_ ?_)
  |(with_reducible refine LeO.bind ?_ (fun _ => ?_))
  |exact ih0 _ _ _ _ _
  |exact ih1 _ _ _ _ _
  |exact bursarref03_Long_less.mono _ _ _
  |exact bursarref03_Long_minus.mono _ _ _
  |exact bursarref03_cut.mono _ _
  |exact LeO.none _
  |refine LeO.ite ?_ ?_
  |refine LeO.bind ?_ (fun _ => ?_)
theorem bursarref03_Long_by.mono : ∀ a0 a1 k, LeO (bursarref03_Long_by.f k a0 a1) (bursarref03_Long_by.f (k + 1) a0 a1) := by
 intro a0 a1 k
 obtain ⟨ih0,ih1⟩:=bursarref03_Long_by.mono_l k
 unfold bursarref03_Long_by.f
 repeat' first
  |(with_reducible exact ih0 _ _ _ _ _)
  |(with_reducible exact ih1 _ _ _ _ _)
  |(with_reducible exact bursarref03_Long_less.mono _ _ _)
  |(with_reducible exact bursarref03_Long_minus.mono _ _ _)
  |(with_reducible exact bursarref03_cut.mono _ _)
  |(with_reducible exact LeO.refl _)
  |(with_reducible exact LeO.none _)
  |(with_reducible refine LeO.ite ?_ ?_)
  |(with_reducible refine LeO.bind ?_ (fun _ => ?_))
  |exact ih0 _ _ _ _ _
  |exact ih1 _ _ _ _ _
  |exact bursarref03_Long_less.mono _ _ _
  |exact bursarref03_Long_minus.mono _ _ _
  |exact bursarref03_cut.mono _ _
  |exact LeO.none _
  |refine LeO.ite ?_ ?_
  |refine LeO.bind ?_ (fun _ => ?_)
end Go.Proofs.YtejgbdclhlolkaaGreatDoor.Q
namespace Go.Proofs.YtejgbdclhlolkaaGreatDoor.Q
open Go.RowKit Go.Proofs.YtejgbdclhlolkaaGreatDoorW.PrintWords Go.Proofs.YtejgbdclhlolkaaGreatDoorW.PrintLast Go.Proofs.YtejgbdclhlolkaaGreatDoorW.PrintMore
attribute [local go_sem] max2_int min2_int max_two min_two max_three min_three max_four min_four   -- for this text's walks alone
set_option linter.unusedVariables false
set_option linter.unusedSimpArgs false
mutual
def bursarref03_Long_times.l0 : Nat → List Int → Int → List Int → List Int → Option (List Int)
|0,_,_,_,_ => none
|k + 1,x5,x6,x139000,x140000 => if x6 < (x139000.length : Int) then (bursarref03_Long_times.l1 k x5 x6 0 0 x139000 x140000) else ((bursarref03_cut.f k x5).bind fun t144 => (some t144))
def bursarref03_Long_times.l1 : Nat → List Int → Int → Int → Int → List Int → List Int → Option (List Int)
|0,_,_,_,_,_,_ => none
|k + 1,x5,x6,x7,x8,x139000,x140000 => if x8 < (x140000.length : Int) then (if 0 ≤ (wrap64 (x6 + x8)) then (if (wrap64 (x6 + x8)) < (x5.length : Int) then (if 0 ≤ x6 then (if x6 < (x139000.length : Int) then ((bursarref03_Long_at.f x140000 x8).bind fun t149 => (bursarref03_Long_times.l1 k (x5.set ((wrap64 (x6 + x8)) : Int).toNat (Int.tmod (wrap64 ((wrap64 ((rd x5 (wrap64 (x6 + x8))) + (wrap64 ((rd x139000 x6) * t149)))) + x7)) 10)) x6 (wrap64 (Int.tdiv (wrap64 ((wrap64 ((rd x5 (wrap64 (x6 + x8))) + (wrap64 ((rd x139000 x6) * t149)))) + x7)) 10)) (wrap64 (x8 + 1)) x139000 x140000)) else (none)) else (none)) else (none)) else (none)) else (if x7 > 0 then (if 0 ≤ (wrap64 (x6 + x8)) then (if (wrap64 (x6 + x8)) < (x5.length : Int) then (if 0 ≤ x6 then (if x6 < (x139000.length : Int) then ((bursarref03_Long_at.f x140000 x8).bind fun t153 => (bursarref03_Long_times.l1 k (x5.set ((wrap64 (x6 + x8)) : Int).toNat (Int.tmod (wrap64 ((wrap64 ((rd x5 (wrap64 (x6 + x8))) + (wrap64 ((rd x139000 x6) * t153)))) + x7)) 10)) x6 (wrap64 (Int.tdiv (wrap64 ((wrap64 ((rd x5 (wrap64 (x6 + x8))) + (wrap64 ((rd x139000 x6) * t153)))) + x7)) 10)) (wrap64 (x8 + 1)) x139000 x140000)) else (none)) else (none)) else (none)) else (none)) else (bursarref03_Long_times.l0 k x5 (wrap64 (x6 + 1)) x139000 x140000))
end
def bursarref03_Long_times.f (k : Nat) (l0_0 : List Int) (l1_0 : List Int) : Option (List Int) := if 0 ≤ (wrap64 ((wrap64 ((l0_0.length : Int) + (l1_0.length : Int))) + 1)) then (if (wrap64 ((wrap64 ((l0_0.length : Int) + (l1_0.length : Int))) + 1) : Int).toNat ≤ 35184372088832 then (bursarref03_Long_times.l0 k (List.replicate (wrap64 ((wrap64 ((l0_0.length : Int) + (l1_0.length : Int))) + 1) : Int).toNat 0) 0 l0_0 l1_0) else (none)) else (none)
theorem bursarref03_Long_times.mono_l : ∀ k, (∀ y0 y1 y2 y3, LeO (bursarref03_Long_times.l0 k y0 y1 y2 y3) (bursarref03_Long_times.l0 (k + 1) y0 y1 y2 y3)) ∧ (∀ y0 y1 y2 y3 y4 y5, LeO (bursarref03_Long_times.l1 k y0 y1 y2 y3 y4 y5) (bursarref03_Long_times.l1 (k + 1) y0 y1 y2 y3 y4 y5))
|0 => ⟨fun _ _ _ _ r h => by simp [bursarref03_Long_times.l0] at h,fun _ _ _ _ _ _ r h => by simp [bursarref03_Long_times.l1] at h⟩
|k + 1 => by
  obtain ⟨ih0,ih1⟩:=bursarref03_Long_times.mono_l k
  refine ⟨?_,?_⟩
  ·intro y0 y1 y2 y3
   unfold bursarref03_Long_times.l0
   repeat' first
  |(with_reducible exact ih0 _ _ _ _)
  |(with_reducible exact ih1 _ _ _ _ _ _)
  |(with_reducible exact bursarref03_cut.mono _ _)
  |(with_reducible exact LeO.refl _)
  |(with_reducible exact LeO.none _)
  |(with_reducible refine LeO.ite ?_ ?_)
  |(with_reducible refine LeO.bind ?_ (fun _ => ?_))
  |exact ih0 _ _ _ _
  |exact ih1 _ _ _ _ _ _
  |exact bursarref03_cut.mono _ _
  |exact LeO.none _
  |refine LeO.ite ?_ ?_
  |refine LeO.bind ?_ (fun _ => ?_)
  ·intro y0 y1 y2 y3 y4 y5
   unfold bursarref03_Long_times.l1
   repeat' first
  |(with_reducible exact ih0 _ _ _ _)
  |(with_reducible exact ih1 _ _ _ _ _ _)
  |(with_reducible exact bursarref03_cut.mono _ _)
  |(with_reducible exact LeO.refl _)
  |(with_reducible exact LeO.none _)
  |(with_reducible refine LeO.ite ?_ ?_)
  |(with_reducible refine LeO.bind ?_ (fun _ => ?_))
  |exact ih0 _ _ _ _
  |exact ih1 _ _ _ _ _ _
  |exact bursarref03_cut.mono _ _
  |exact LeO.none _
  |refine LeO.ite ?_ ?_
  |refine LeO.bind ?_ (fun _ => ?_)
theorem bursarref03_Long_times.mono : ∀ a0 a1 k, LeO (bursarref03_Long_times.f k a0 a1) (bursarref03_Long_times.f (k + 1) a0 a1) := by
 intro a0 a1 k
 obtain ⟨ih0,ih1⟩:=bursarref03_Long_times.mono_l k
 unfold bursarref03_Long_times.f
 repeat' first
  |(with_reducible exact ih0 _ _ _ _)
  |(with_reducible exact ih1 _ _ _ _ _ _)
  |(with_reducible exact bursarref03_cut.mono _ _)
  |(with_reducible exact LeO.refl _)
  |(with_reducible exact LeO.none _)
  |(with_reducible refine LeO.ite ?_ ?_)
  |(with_reducible refine LeO.bind ?_ (fun _ => ?_))
  |exact ih0 _ _ _ _
  |exact ih1 _ _ _ _ _ _
  |exact bursarref03_cut.mono _ _
  |exact LeO.none _
  |refine LeO.ite ?_ ?_
  |refine LeO.bind ?_ (fun _ => ?_)
end Go.Proofs.YtejgbdclhlolkaaGreatDoor.Q
namespace Go.Proofs.YtejgbdclhlolkaaGreatDoor.Q
open Go.RowKit Go.Proofs.YtejgbdclhlolkaaGreatDoorW.PrintWords Go.Proofs.YtejgbdclhlolkaaGreatDoorW.PrintLast Go.Proofs.YtejgbdclhlolkaaGreatDoorW.PrintMore
attribute [local go_sem] max2_int min2_int max_two min_two max_three min_three max_four min_four   -- for this text's walks alone
set_option linter.unusedVariables false
set_option linter.unusedSimpArgs false
def bursarref03_power.l0 : Nat → Int → Int → Int → List Int → Option (List Int)
|0,_,_,_,_ => none
|k + 1,x0,x1,x6,x160000 => if x6 < x1 then ((bursarref03_long.f k x0).bind fun t160 => ((bursarref03_Long_times.f k x160000 t160).bind fun t163 => (bursarref03_power.l0 k x0 x1 (wrap64 (x6 + 1)) t163))) else (some x160000)
def bursarref03_power.f (k : Nat) (a0 : Int) (a1 : Int) : Option (List Int) := (bursarref03_long.f k 1).bind fun t156 => (bursarref03_power.l0 k a0 a1 0 t156)
theorem bursarref03_power.mono_l : ∀ k, (∀ y0 y1 y2 y3, LeO (bursarref03_power.l0 k y0 y1 y2 y3) (bursarref03_power.l0 (k + 1) y0 y1 y2 y3))
|0 => fun _ _ _ _ r h => by simp [bursarref03_power.l0] at h
|k + 1 => by
  have ih0:=bursarref03_power.mono_l k
  ·intro y0 y1 y2 y3
   unfold bursarref03_power.l0
   repeat' first
  |(with_reducible exact ih0 _ _ _ _)
  |(with_reducible exact bursarref03_Long_times.mono _ _ _)
  |(with_reducible exact bursarref03_long.mono _ _)
  |(with_reducible exact LeO.refl _)
  |(with_reducible exact LeO.none _)
  |(with_reducible refine LeO.ite ?_ ?_)
  |(with_reducible refine LeO.bind ?_ (fun _ => ?_))
  |exact ih0 _ _ _ _
  |exact bursarref03_Long_times.mono _ _ _
  |exact bursarref03_long.mono _ _
  |exact LeO.none _
  |refine LeO.ite ?_ ?_
  |refine LeO.bind ?_ (fun _ => ?_)
theorem bursarref03_power.mono : ∀ a0 a1 k, LeO (bursarref03_power.f k a0 a1) (bursarref03_power.f (k + 1) a0 a1) := by
 intro a0 a1 k
 have ih0:=bursarref03_power.mono_l k
 unfold bursarref03_power.f
 repeat' first
  |(with_reducible exact ih0 _ _ _ _)
  |(with_reducible exact bursarref03_Long_times.mono _ _ _)
  |(with_reducible exact bursarref03_long.mono _ _)
  |(with_reducible exact LeO.refl _)
  |(with_reducible exact LeO.none _)
  |(with_reducible refine LeO.ite ?_ ?_)
  |(with_reducible refine LeO.bind ?_ (fun _ => ?_))
  |exact ih0 _ _ _ _
  |exact bursarref03_Long_times.mono _ _ _
  |exact bursarref03_long.mono _ _
  |exact LeO.none _
  |refine LeO.ite ?_ ?_
  |refine LeO.bind ?_ (fun _ => ?_)
end Go.Proofs.YtejgbdclhlolkaaGreatDoor.Q
namespace Go.Proofs.LongLaw
set_option linter.unusedVariables false
set_option linter.unusedSimpArgs false
def dval : List Int → Int
  | [] => 0
  | d :: r => d + 10 * dval r
def Digits (l : List Int) : Prop := ∀ x ∈ l, 0 ≤ x ∧ x ≤ 9
def longL (n : Nat) : List Int := if h : n = 0 then [] else ((n % 10 : Nat) : Int) :: longL (n / 10)
termination_by n
decreasing_by omega
theorem longL_zero : longL 0 = [] := by unfold longL; simp
theorem longL_pos (n : Nat) (h : n ≠ 0) : longL n = ((n % 10 : Nat) : Int) :: longL (n / 10) := by rw [longL]; simp [h]
theorem dval_nonneg {l : List Int} (h : Digits l) : 0 ≤ dval l := by
  induction l with
  | nil => simp [dval]
  | cons d r ih =>
    have h1 := h d (by simp)
    have h2 := ih (fun x hx => h x (by simp [hx]))
    simp only [dval]; omega
theorem longL_digits (n : Nat) : Digits (longL n) := by
  induction n using Nat.strongRecOn with
  | _ n ih =>
    by_cases h : n = 0
    · subst h; rw [longL_zero]; intro x hx; cases hx
    · rw [longL_pos n h]
      intro x hx
      rcases List.mem_cons.1 hx with rfl | hx
      · omega
      · exact ih (n / 10) (by omega) x hx
theorem dval_longL (n : Nat) : dval (longL n) = n := by
  induction n using Nat.strongRecOn with
  | _ n ih =>
    by_cases h : n = 0
    · subst h; rw [longL_zero]; rfl
    · rw [longL_pos n h]
      simp only [dval]
      rw [ih (n / 10) (by omega)]
      omega
theorem dval_app (a b : List Int) : dval (a ++ b) = dval a + 10 ^ a.length * dval b := by
  induction a with
  | nil => simp [dval]
  | cons x a ih =>
    simp only [List.cons_append, dval, ih, List.length_cons, Int.pow_succ]
    rw [Int.mul_add, ← Int.mul_assoc, Int.mul_comm 10 (10 ^ a.length)]
    omega
theorem dval_lt {l : List Int} (h : Digits l) : dval l < 10 ^ l.length := by
  induction l with
  | nil => simp [dval]
  | cons d r ih =>
    have h1 := h d (by simp)
    have h2 := ih (fun x hx => h x (by simp [hx]))
    simp only [dval, List.length_cons, Int.pow_succ]
    omega
theorem longL_length_lt (n : Nat) : n < 10 ^ (longL n).length := by
  have := dval_lt (longL_digits n)
  rw [dval_longL] at this
  have e : ((10 : Int) ^ (longL n).length) = ((10 ^ (longL n).length : Nat) : Int) := by simp
  rw [e] at this
  omega
theorem longL_length_ge (n : Nat) (h : n ≠ 0) : 10 ^ ((longL n).length - 1) ≤ n := by
  induction n using Nat.strongRecOn with
  | _ n ih =>
    rw [longL_pos n h, List.length_cons, Nat.add_sub_cancel]
    by_cases h2 : n / 10 = 0
    · rw [h2, longL_zero]; simp; omega
    · have := ih (n / 10) (by omega) h2
      have e : (longL (n / 10)).length = ((longL (n / 10)).length - 1) + 1 := by rw [longL_pos _ h2]; simp
      rw [e, Nat.pow_succ]
      omega
theorem longL_length_mono {a b : Nat} (h : (longL a).length < (longL b).length) : a < b := by
  have h1 := longL_length_lt a
  have hb : b ≠ 0 := fun e => by rw [e, longL_zero] at h; simp at h
  have h2 := longL_length_ge b hb
  have h3 : 10 ^ (longL a).length ≤ 10 ^ ((longL b).length - 1) := Nat.pow_le_pow_right (by omega) (by omega)
  omega
theorem dval_take_succ (l : List Int) : ∀ i : Nat, dval (l.take (i + 1)) = dval (l.take i) + 10 ^ i * l.getD i 0 := by
  induction l with
  | nil => intro i; simp [dval]
  | cons d r ih =>
    intro i
    cases i with
    | zero => simp [dval]
    | succ i =>
      simp only [List.take_succ_cons, dval, List.getD_cons_succ]
      rw [ih i, Int.pow_succ, Int.mul_add, ← Int.mul_assoc, Int.mul_comm 10 (10 ^ i)]
      omega
theorem dval_drop_cons (l : List Int) (i : Nat) (h : i < l.length) : dval (l.drop i) = l.getD i 0 + 10 * dval (l.drop (i + 1)) := by
  rw [List.drop_eq_getElem_cons h]
  simp [dval, List.getD_eq_getElem?_getD, List.getElem?_eq_getElem h]
theorem digits_snoc {l : List Int} {x : Int} (h : Digits l) (h0 : 0 ≤ x) (h1 : x ≤ 9) : Digits (l ++ [x]) := by
  intro y hy
  rcases List.mem_append.1 hy with hy | hy
  · exact h y hy
  · simp at hy; omega
theorem dval_snoc (l : List Int) (x : Int) : dval (l ++ [x]) = dval l + 10 ^ l.length * x := by rw [dval_app]; simp [dval]
theorem digits_get {l : List Int} (h : Digits l) (i : Nat) : 0 ≤ l.getD i 0 ∧ l.getD i 0 ≤ 9 := by
  by_cases hi : i < l.length
  · rw [List.getD_eq_getElem?_getD, List.getElem?_eq_getElem hi]
    exact h _ (List.getElem_mem hi)
  · rw [List.getD_eq_getElem?_getD, List.getElem?_eq_none (by omega)]
    simp
end Go.Proofs.LongLaw
namespace Go.Proofs.YtejgbdclhlolkaaGreatDoor.Q
open Go.RowKit Go.Proofs.YtejgbdclhlolkaaGreatDoorW.PrintWords Go.Proofs.YtejgbdclhlolkaaGreatDoorW.PrintLast Go.Proofs.LongLaw
set_option linter.unusedVariables false
set_option linter.unusedSimpArgs false
theorem w64_in {i : Int} (h0 : -9223372036854775808 ≤ i) (h1 : i ≤ 9223372036854775807) : wrap64 i = i := by unfold wrap64; omega
theorem rd_nat (l : List Int) (i : Nat) : rd l (i : Int) = l.getD i 0 := by
  first | rfl | simp [rd, rdOf]
theorem at_is (l : List Int) (i : Nat) : bursarref03_Long_at.f l (i : Int) = some (l.getD i 0) := by
  unfold bursarref03_Long_at.f
  by_cases h : i < l.length
  · rw [if_pos (by omega), if_pos (by omega), rd_nat]
  · rw [if_neg (by omega), List.getD_eq_getElem?_getD, List.getElem?_eq_none (by omega)]
    rfl
theorem long_l0 (n : Nat) : ∀ acc : List Int, n ≤ 9223372036854775807 → acc.length + (longL n).length < 17592186044416 → Ev (fun k => bursarref03_long.l0 k (n : Int) acc) (acc ++ longL n) := by
  induction n using Nat.strongRecOn with
  | _ n ih =>
    intro acc hn hl
    by_cases h : n = 0
    · subst h
      rw [longL_zero, List.append_nil]
      exact Ev.step (f := fun _ => some acc) (fun k => by simp only [bursarref03_long.l0]; rw [if_neg (by omega)]) (Ev.now _)
    · rw [longL_pos n h, List.length_cons] at hl
      rw [longL_pos n h]
      refine Ev.step (f := fun k => bursarref03_long.l0 k ((n / 10 : Nat) : Int) (acc ++ [((n % 10 : Nat) : Int)])) (fun k => ?_) ?_
      · simp only [bursarref03_long.l0]
        rw [if_pos (by omega), if_pos (by omega), Int.tdiv_eq_ediv_of_nonneg (by omega), Int.tmod_eq_emod_of_nonneg (by omega), w64_in (by omega) (by omega)]
        rfl
      · have := ih (n / 10) (by omega) (acc ++ [((n % 10 : Nat) : Int)]) (by omega) (by simp; omega)
        rw [List.append_assoc] at this
        exact this
theorem longL_le (m : Nat) : ∀ n, n < 10 ^ m → (longL n).length ≤ m := by
  induction m with
  | zero => intro n h; obtain rfl : n = 0 := by omega
            rw [longL_zero]; exact Nat.le_refl _
  | succ m ih =>
    intro n h
    by_cases h0 : n = 0
    · subst h0; rw [longL_zero]; exact Nat.zero_le _
    · rw [longL_pos n h0, List.length_cons]
      have := ih (n / 10) (by rw [Nat.pow_succ] at h; omega)
      omega
theorem long_ev (n : Nat) (h : n ≤ 9223372036854775807) : Ev (fun k => bursarref03_long.f k (n : Int)) (longL n) := by
  have := long_l0 n [] h (by have := longL_le 19 n (by omega); simp; omega)
  simpa [bursarref03_long.f] using this
theorem take_zero_cut (l : List Int) (i : Nat) (hd : Digits l) (hi : i < l.length) (h0 : l.getD i 0 = 0) : dval (l.take (i + 1)) = dval (l.take i) := by
  rw [dval_take_succ, h0]; simp
theorem digits_take {l : List Int} (h : Digits l) (i : Nat) : Digits (l.take i) := fun x hx => h x (List.mem_of_mem_take hx)
theorem digits_drop {l : List Int} (h : Digits l) (i : Nat) : Digits (l.drop i) := fun x hx => h x (List.mem_of_mem_drop hx)
theorem longL_dval : ∀ {l : List Int}, Digits l → (l = [] ∨ l.getD (l.length - 1) 0 ≠ 0) → longL (dval l).toNat = l
  | [], _, _ => by simp [dval, longL_zero]
  | d :: r, h, ht => by
    have h1 := h d (by simp)
    have hr : Digits r := fun x hx => h x (by simp [hx])
    have h3 := dval_nonneg hr
    simp only [dval]
    rcases ht with ht | ht
    · cases ht
    · cases r with
      | nil =>
        simp at ht
        have e : (d + 10 * dval []).toNat = d.toNat := by simp [dval]
        rw [e, longL_pos _ (by omega), show d.toNat / 10 = 0 by omega, longL_zero]
        congr 1
        omega
      | cons x s =>
        have ih := longL_dval hr (.inr (by simpa using ht))
        have hne : dval (x :: s) ≠ 0 := by
          intro e
          rw [e] at ih
          simp [longL_zero] at ih
        rw [longL_pos _ (by omega)]
        have e1 : (d + 10 * dval (x :: s)).toNat / 10 = (dval (x :: s)).toNat := by omega
        have e2 : (((d + 10 * dval (x :: s)).toNat % 10 : Nat) : Int) = d := by omega
        rw [e1, e2, ih]
theorem cut_l0 (l : List Int) (hd : Digits l) (hl : l.length < 4611686018427387904) : ∀ i : Nat, i ≤ l.length → Ev (fun k => bursarref03_cut.l0 k l (i : Int)) (longL (dval (l.take i)).toNat) := by
  intro i
  induction i with
  | zero =>
    intro _
    have e : longL (dval (l.take 0)).toNat = [] := by simp [dval, longL_zero]
    rw [e]
    exact Ev.step (f := fun _ => some []) (fun k => by simp only [bursarref03_cut.l0]; rw [if_neg (by omega), if_pos (by omega), if_pos (by omega)]; simp) (Ev.now _)
  | succ i ih =>
    intro hi
    have hw : wrap64 (((i + 1 : Nat) : Int) - 1) = (i : Int) := by rw [w64_in (by omega) (by omega)]; omega
    by_cases h0 : l.getD i 0 = 0
    · rw [take_zero_cut l i hd (by omega) h0]
      refine Ev.step (f := fun k => bursarref03_cut.l0 k l (i : Int)) (fun k => ?_) (ih (by omega))
      simp only [bursarref03_cut.l0]
      rw [hw, if_pos (by omega), if_pos (by omega), if_pos (by omega), rd_nat, if_pos h0]
    · have e : longL (dval (l.take (i + 1))).toNat = l.take (i + 1) := by
        refine longL_dval (digits_take hd _) (.inr ?_)
        rw [List.length_take, show min (i + 1) l.length = i + 1 by omega, Nat.add_sub_cancel]
        rw [List.getD_eq_getElem?_getD, List.getElem?_take_of_lt (by omega), ← List.getD_eq_getElem?_getD]
        exact h0
      rw [e]
      refine Ev.step (f := fun _ => some (l.take (i + 1))) (fun k => ?_) (Ev.now _)
      simp only [bursarref03_cut.l0]
      rw [hw, if_pos (by omega), if_pos (by omega), if_pos (by omega), rd_nat, if_neg h0, if_pos (by omega), if_pos (by omega)]
      rfl
theorem cut_ev (l : List Int) (hd : Digits l) (hl : l.length < 4611686018427387904) : Ev (fun k => bursarref03_cut.f k l) (longL (dval l).toNat) := by
  have := cut_l0 l hd hl l.length (Nat.le_refl _)
  rw [List.take_length] at this
  exact this
theorem dval_drop_getD (l : List Int) (i : Nat) : dval (l.drop i) = l.getD i 0 + 10 * dval (l.drop (i + 1)) := by
  by_cases h : i < l.length
  · exact dval_drop_cons l i h
  · rw [List.drop_eq_nil_of_le (by omega), List.drop_eq_nil_of_le (by omega), List.getD_eq_getElem?_getD, List.getElem?_eq_none (by omega)]
    simp [dval]
theorem getD_out (l : List Int) (i : Nat) (h : l.length ≤ i) : l.getD i 0 = 0 := by rw [List.getD_eq_getElem?_getD, List.getElem?_eq_none h]; rfl
theorem plus_step (A P c a A' b B' s : Int) (hs : s = c + a + b) : A + P * (s % 10) + P * 10 * (s / 10 + A' + B') = A + P * (c + (a + 10 * A') + (b + 10 * B')) := by
  have h : s = 10 * (s / 10) + s % 10 := by omega
  generalize s / 10 = q at *
  generalize s % 10 = r at *
  grind
theorem plus_l0 (a b : List Int) (ha : Digits a) (hb : Digits b) (hla : a.length < 1000000) (hlb : b.length < 1000000) (m : Nat) (hm : m = max a.length b.length) :
    ∀ (d i : Nat) (acc : List Int) (c : Int), Digits acc → acc.length = i → 0 ≤ c → c ≤ 1 → (c = 0 ∨ i ≤ m) → i + d = m + 1 →
      Ev (fun k => bursarref03_Long_plus.l0 k acc c (i : Int) a b) (longL (dval acc + 10 ^ i * (c + dval (a.drop i) + dval (b.drop i))).toNat) := by
  intro d
  induction d with
  | zero =>
    intro i acc c hA hi h0 h1 hc hd
    have hc0 : c = 0 := by omega
    subst hc0
    refine Ev.step (f := fun k => bursarref03_Long_plus.j1 k acc 0 (i : Int) false a b) (fun k => ?_) ?_
    · simp only [bursarref03_Long_plus.l0]
      rw [if_neg (by omega), if_neg (by omega)]
      rfl
    · have e : longL (dval acc + 10 ^ i * (0 + dval (a.drop i) + dval (b.drop i))).toNat = longL (dval acc).toNat := by
        rw [List.drop_eq_nil_of_le (by omega), List.drop_eq_nil_of_le (by omega)]
        simp [dval]
      rw [e]
      refine Ev.step (f := fun k => (bursarref03_cut.f k acc).bind fun t => some t) (fun k => ?_) (Ev.bind (cut_ev acc hA (by omega)) (Ev.now _))
      simp only [bursarref03_Long_plus.j1]
      rfl
  | succ d ih =>
    intro i acc c hA hi h0 h1 hc hd
    by_cases hgo : i < a.length ∨ i < b.length ∨ 0 < c
    · have ga := digits_get ha i
      have gb := digits_get hb i
      have za := getD_out a i
      have zb := getD_out b i
      have key := ih (i + 1) (acc ++ [(c + a.getD i 0 + b.getD i 0) % 10]) ((c + a.getD i 0 + b.getD i 0) / 10) (digits_snoc hA (by omega) (by omega)) (by simp [hi]) (by omega) (by omega) (by omega) (by omega)
      have e : dval (acc ++ [(c + a.getD i 0 + b.getD i 0) % 10]) + 10 ^ (i + 1) * ((c + a.getD i 0 + b.getD i 0) / 10 + dval (a.drop (i + 1)) + dval (b.drop (i + 1))) = dval acc + 10 ^ i * (c + dval (a.drop i) + dval (b.drop i)) := by
        rw [dval_snoc, hi, dval_drop_getD a i, dval_drop_getD b i, Int.pow_succ]
        exact plus_step _ _ _ _ _ _ _ _ rfl
      rw [e] at key
      refine Ev.step (f := fun k => bursarref03_Long_plus.j1 k acc c (i : Int) true a b) (fun k => ?_) (Ev.step (fun k => ?_) key)
      · simp only [bursarref03_Long_plus.l0]
        by_cases g1 : i < a.length
        · rw [if_pos (by omega)]
        · rw [if_neg (by omega)]
          by_cases g2 : i < b.length
          · rw [if_pos (by omega)]
          · rw [if_neg (by omega), decide_eq_true (by omega)]
      · simp only [bursarref03_Long_plus.j1]
        rw [if_pos trivial, at_is, at_is]
        simp only [Option.bind_some]
        rw [if_pos (by omega)]
        have w1 : wrap64 (wrap64 (a.getD i 0 + b.getD i 0) + c) = c + a.getD i 0 + b.getD i 0 := by
          rw [w64_in (i := a.getD i 0 + b.getD i 0) (by omega) (by omega), w64_in (by omega) (by omega)]; omega
        rw [w1, Int.tmod_eq_emod_of_nonneg (by omega), Int.tdiv_eq_ediv_of_nonneg (by omega), w64_in (i := (c + a.getD i 0 + b.getD i 0) / 10) (by omega) (by omega), w64_in (i := (i : Int) + 1) (by omega) (by omega)]
        rfl
    · have hc0 : c = 0 := by omega
      subst hc0
      refine Ev.step (f := fun k => bursarref03_Long_plus.j1 k acc 0 (i : Int) false a b) (fun k => ?_) ?_
      · simp only [bursarref03_Long_plus.l0]
        rw [if_neg (by omega), if_neg (by omega)]
        rfl
      · have e : longL (dval acc + 10 ^ i * (0 + dval (a.drop i) + dval (b.drop i))).toNat = longL (dval acc).toNat := by
          rw [List.drop_eq_nil_of_le (by omega), List.drop_eq_nil_of_le (by omega)]
          simp [dval]
        rw [e]
        refine Ev.step (f := fun k => (bursarref03_cut.f k acc).bind fun t => some t) (fun k => ?_) (Ev.bind (cut_ev acc hA (by omega)) (Ev.now _))
        simp only [bursarref03_Long_plus.j1]
        rfl
theorem plus_ev (n m : Nat) (hn : (longL n).length < 1000000) (hm : (longL m).length < 1000000) : Ev (fun k => bursarref03_Long_plus.f k (longL n) (longL m)) (longL (n + m)) := by
  have := plus_l0 (longL n) (longL m) (longL_digits n) (longL_digits m) hn hm _ rfl (max (longL n).length (longL m).length + 1) 0 [] 0 (by intro x hx; cases hx) rfl (by omega) (by omega) (.inl rfl) (by omega)
  simp only [dval, List.drop_zero, dval_longL] at this
  have e : (0 + 10 ^ 0 * (0 + (n : Int) + (m : Int))).toNat = n + m := by simp; omega
  rw [e] at this
  exact this
theorem pow_pos10 (i : Nat) : (0 : Int) < 10 ^ i := by
  have : (10 : Int) ^ i = ((10 ^ i : Nat) : Int) := by simp
  rw [this]
  have := Nat.pow_pos (n := i) (show 0 < 10 by decide)
  omega
theorem less_top (P A B a b : Int) (hA : 0 ≤ A) (hAP : A < P) (hB : 0 ≤ B) (hBP : B < P) (hab : a < b) : A + P * a < B + P * b := by
  have h : P * a + P ≤ P * b := by
    have : P * (a + 1) ≤ P * b := Int.mul_le_mul_of_nonneg_left (by omega) (by omega)
    rw [Int.mul_add, Int.mul_one] at this
    exact this
  omega
theorem less_l0 (a b : List Int) (ha : Digits a) (hb : Digits b) (hl : a.length = b.length) (hla : a.length < 1000000) :
    ∀ i : Nat, i ≤ a.length → Ev (fun k => bursarref03_Long_less.l0 k ((i : Int) - 1) a b) (decide (dval (a.take i) < dval (b.take i))) := by
  intro i
  induction i with
  | zero =>
    intro _
    have e : decide (dval (a.take 0) < dval (b.take 0)) = false := by simp [dval]
    rw [e]
    refine Ev.step (f := fun _ => some false) (fun k => ?_) (Ev.now _)
    simp only [bursarref03_Long_less.l0]
    rw [if_neg (by omega)]
  | succ i ih =>
    intro hi
    have e1 : (((i + 1 : Nat) : Int) - 1) = (i : Int) := by omega
    rw [e1, dval_take_succ, dval_take_succ]
    by_cases h : a.getD i 0 = b.getD i 0
    · have e2 : decide (dval (a.take i) + 10 ^ i * a.getD i 0 < dval (b.take i) + 10 ^ i * b.getD i 0) = decide (dval (a.take i) < dval (b.take i)) := by
        rw [h]; congr 1; simp
      rw [e2]
      refine Ev.step (f := fun k => bursarref03_Long_less.l0 k ((i : Int) - 1) a b) (fun k => ?_) (ih (by omega))
      simp only [bursarref03_Long_less.l0]
      rw [if_pos (by omega), if_pos (by omega), if_pos (by omega), if_pos (by omega), rd_nat, rd_nat, if_pos h, w64_in (by omega) (by omega)]
    · have e2 : decide (dval (a.take i) + 10 ^ i * a.getD i 0 < dval (b.take i) + 10 ^ i * b.getD i 0) = decide (a.getD i 0 < b.getD i 0) := by
        have hA := dval_nonneg (digits_take ha i)
        have hB := dval_nonneg (digits_take hb i)
        have hAP := dval_lt (digits_take ha i)
        have hBP := dval_lt (digits_take hb i)
        rw [List.length_take, show min i a.length = i by omega] at hAP
        rw [List.length_take, show min i b.length = i by omega] at hBP
        by_cases hlt : a.getD i 0 < b.getD i 0
        · rw [decide_eq_true hlt, decide_eq_true (less_top _ _ _ _ _ hA hAP hB hBP hlt)]
        · rw [decide_eq_false hlt, decide_eq_false]
          have := less_top _ _ _ _ _ hB hBP hA hAP (show b.getD i 0 < a.getD i 0 by omega)
          omega
      rw [e2]
      refine Ev.step (f := fun _ => some (decide (a.getD i 0 < b.getD i 0))) (fun k => ?_) (Ev.now _)
      simp only [bursarref03_Long_less.l0]
      rw [if_pos (by omega), if_pos (by omega), if_pos (by omega), if_pos (by omega), rd_nat, rd_nat, if_neg h]
theorem less_ev (n m : Nat) (hn : (longL n).length < 1000000) (hm : (longL m).length < 1000000) : Ev (fun k => bursarref03_Long_less.f k (longL n) (longL m)) (decide (n < m)) := by
  by_cases h : (longL n).length = (longL m).length
  · have := less_l0 (longL n) (longL m) (longL_digits n) (longL_digits m) h hn (longL n).length (Nat.le_refl _)
    rw [List.take_length, h, List.take_length, dval_longL, dval_longL] at this
    have e : decide ((n : Int) < (m : Int)) = decide (n < m) := by congr 1; simp
    rw [e] at this
    refine Ev.congr (fun k => ?_) this
    unfold bursarref03_Long_less.f
    rw [if_pos (by omega), w64_in (by omega) (by omega), h]
  · refine Ev.congr (f := fun _ => some (decide (n < m))) (fun k => ?_) (Ev.now _)
    unfold bursarref03_Long_less.f
    rw [if_neg (by omega)]
    congr 1
    by_cases hlt : (longL n).length < (longL m).length
    · rw [decide_eq_true (show ((longL n).length : Int) < ((longL m).length : Int) by omega), decide_eq_true (longL_length_mono hlt)]
    · have := longL_length_mono (a := m) (b := n) (by omega)
      rw [decide_eq_false (show ¬ ((longL n).length : Int) < ((longL m).length : Int) by omega), decide_eq_false (by omega)]
theorem value_l0 (a : List Int) (ha : Digits a) (hla : a.length < 1000000) (hv : dval a ≤ 9223372036854775807) :
    ∀ (i : Nat), i ≤ a.length → Ev (fun k => bursarref03_Long_value.l0 k (dval (a.drop i)) ((i : Int) - 1) a) (dval a, true) := by
  intro i
  induction i with
  | zero =>
    intro _
    rw [List.drop_zero]
    refine Ev.step (f := fun _ => some (dval a, true)) (fun k => ?_) (Ev.now _)
    simp only [bursarref03_Long_value.l0]
    rw [if_neg (by omega)]
  | succ i ih =>
    intro hi
    have h0 := dval_drop_getD a i
    have hge := dval_nonneg (digits_drop ha (i + 1))
    have ga := digits_get ha i
    have hup : dval (a.drop i) ≤ dval a := by
      have h1 := dval_app (a.take i) (a.drop i)
      rw [List.take_append_drop] at h1
      have h2 := dval_nonneg (digits_take ha i)
      have h3 := dval_nonneg (digits_drop ha i)
      have h4 : dval (a.drop i) * 1 ≤ dval (a.drop i) * 10 ^ (a.take i).length := Int.mul_le_mul_of_nonneg_left (by have := pow_pos10 (a.take i).length; omega) h3
      rw [Int.mul_comm (dval (a.drop i)) (10 ^ _)] at h4
      omega
    refine Ev.step (f := fun k => bursarref03_Long_value.l0 k (dval (a.drop i)) ((i : Int) - 1) a) (fun k => ?_) (ih (by omega))
    simp only [bursarref03_Long_value.l0]
    have e1 : (((i + 1 : Nat) : Int) - 1) = (i : Int) := by omega
    rw [e1, if_pos (by omega), if_pos (by omega), if_pos (by omega), rd_nat, w64_in (i := dval (a.drop (i + 1)) * 10) (by omega) (by omega), w64_in (i := (i : Int) - 1) (by omega) (by omega), w64_in (by omega) (by omega)]
    congr 1
    omega
theorem value_ev (n : Nat) (hn : (longL n).length < 1000000) : Ev (fun k => bursarref03_Long_value.f k (longL n)) (if n ≤ 9223372036854775807 then ((n : Int), true) else (0, false)) := by
  refine Ev.congr (fun k => rfl) (Ev.bind (long_ev 9223372036854775807 (Nat.le_refl _)) (Ev.bind (less_ev 9223372036854775807 n (by have := longL_le 19 9223372036854775807 (by decide); omega) hn) ?_))
  by_cases h : n ≤ 9223372036854775807
  · rw [if_pos h]
    have := value_l0 (longL n) (longL_digits n) hn (by rw [dval_longL]; omega) (longL n).length (Nat.le_refl _)
    rw [List.drop_length, dval_longL] at this
    refine Ev.congr (fun k => ?_) this
    rw [decide_eq_false (by omega), if_neg Bool.false_ne_true, w64_in (by omega) (by omega)]
    rfl
  · rw [if_neg h]
    refine Ev.congr (f := fun _ => some (0, false)) (fun k => ?_) (Ev.now _)
    rw [decide_eq_true (by omega), if_pos rfl]
end Go.Proofs.YtejgbdclhlolkaaGreatDoor.Q
namespace Go.Proofs.YtejgbdclhlolkaaGreatDoor.Q
end Go.Proofs.YtejgbdclhlolkaaGreatDoor.Q
namespace Go.Proofs.YtejgbdclhlolkaaGreatDoor.Q
end Go.Proofs.YtejgbdclhlolkaaGreatDoor.Q
namespace Go.Proofs.YtejgbdclhlolkaaGreatDoor.Q
open Go.RowKit Go.Lib Go.Proofs.YtejgbdclhlolkaaGreatDoorW.PrintWords Go.Proofs.YtejgbdclhlolkaaGreatDoorW.PrintLast
set_option linter.unusedVariables false
set_option linter.unusedSimpArgs false
def tot : List S57 → ByteArray → Int
  | [], _ => 0
  | a :: r, x => (if a.f0 = x then a.f1 else 0) + tot r x
theorem tot_nil (x : ByteArray) : tot [] x = 0 := rfl
theorem tot_cons (a : S57) (r : List S57) (x : ByteArray) : tot (a :: r) x = (if a.f0 = x then a.f1 else 0) + tot r x := rfl
theorem tot_nonneg {l : List S57} (h : ∀ a ∈ l, 0 ≤ a.f1) (x : ByteArray) : 0 ≤ tot l x := by
  induction l with
  | nil => rw [tot_nil]; omega
  | cons a l ih =>
    rw [tot_cons]
    have h1 := h a (by simp)
    have h2 := ih (fun b hb => h b (by simp [hb]))
    split <;> omega
theorem named_iff (l : List S57) (x : ByteArray) : named l x = true ↔ ∃ y ∈ l, y.f0 = x := by
  unfold named
  rw [List.any_eq_true]
  exact ⟨fun ⟨y, h1, h2⟩ => ⟨y, h1, of_decide_eq_true h2⟩, fun ⟨y, h1, h2⟩ => ⟨y, h1, decide_eq_true h2⟩⟩
theorem named_cons (a : S57) (l : List S57) (x : ByteArray) : named (a :: l) x = true ↔ a.f0 = x ∨ named l x = true := by
  rw [named_iff, named_iff]
  constructor
  · rintro ⟨y, hy, e⟩
    rcases List.mem_cons.1 hy with rfl | hy
    · exact .inl e
    · exact .inr ⟨y, hy, e⟩
  · rintro (e | ⟨y, hy, e⟩)
    · exact ⟨a, by simp, e⟩
    · exact ⟨y, by simp [hy], e⟩
theorem tot_none {l : List S57} {x : ByteArray} (h : ¬ named l x = true) : tot l x = 0 := by
  induction l with
  | nil => rfl
  | cons a l ih =>
    rw [named_cons] at h
    rw [tot_cons, if_neg (fun e => h (.inl e)), ih (fun e => h (.inr e))]
    rfl
theorem rises_nodup {L : List S57} (h : Rises L) : L.Nodup := List.Pairwise.imp (fun {x y} hxy e => by subst e; exact absurd (show nless x.f0 x.f0 = true from hxy) (by rw [nless_irrefl]; exact Bool.false_ne_true)) h
theorem rises_eq {L M : List S57} (h1 : Rises L) (h2 : Rises M) (h : ∀ y, y ∈ L ↔ y ∈ M) : L = M := by
  have hp : L.Perm M := (List.perm_ext_iff_of_nodup (rises_nodup h1) (rises_nodup h2)).2 h
  have p1 : L.Pairwise (fun a b : S57 => nless a.f0 b.f0 = true) := h1
  have p2 : M.Pairwise (fun a b : S57 => nless a.f0 b.f0 = true) := h2
  refine List.Perm.eq_of_pairwise (le := fun a b : S57 => nless a.f0 b.f0 = true) ?_ p1 p2 hp
  intro a b _ _ h3 h4
  exact absurd (nless_trans h3 h4) (by rw [nless_irrefl]; exact Bool.false_ne_true)
theorem val_ins {L : List S57} (h : Rises L) (x z : ByteArray) (v : Int) : valOf (insS L x v) z = if z = x then v else valOf L z := by
  have hr := rises_ins (x := x) (v := v) h
  by_cases e : z = x
  · rw [if_pos e, e]
    exact val_mem (y := ⟨x, v⟩) hr ((mem_ins h).2 (.inl rfl))
  · rw [if_neg e]
    by_cases hn : ∃ y ∈ L, y.f0 = z
    · obtain ⟨y, hy, rfl⟩ := hn
      rw [val_mem h hy, val_mem hr ((mem_ins h).2 (.inr ⟨hy, e⟩))]
    · rw [val_none (fun y hy e => hn ⟨y, hy, e⟩), val_none]
      intro y hy e2
      rcases (mem_ins h).1 hy with rfl | ⟨hy, _⟩
      · exact e e2.symm
      · exact hn ⟨y, hy, e2⟩
theorem val_ok {L : List S57} (h : Rises L) (hv : ∀ y ∈ L, 0 ≤ y.f1 ∧ y.f1 ≤ 9223372036854775807) (x : ByteArray) : 0 ≤ valOf L x ∧ valOf L x ≤ 9223372036854775807 := by
  by_cases hn : ∃ y ∈ L, y.f0 = x
  · obtain ⟨y, hy, rfl⟩ := hn
    rw [val_mem h hy]
    exact hv y hy
  · rw [val_none (fun y hy e => hn ⟨y, hy, e⟩)]
    omega
theorem addP_in {a v : Int} (ha : 0 ≤ a ∧ a ≤ 9223372036854775807) (hv : 0 ≤ v ∧ v ≤ 9223372036854775807) : addP a v = if 9223372036854775807 < a + v then (0, 7) else (a + v, 0) := by
  unfold addP
  have h : ¬ (a < 0 ∨ v < 0) := by omega
  have hw : wrap64 (9223372036854775807 - v) = 9223372036854775807 - v := by unfold wrap64; omega
  rw [if_neg h, hw]
  by_cases h2 : a > 9223372036854775807 - v
  · rw [if_pos h2, if_pos (by omega)]
  · rw [if_neg h2, if_neg (by omega)]
    have : wrap64 (a + v) = a + v := by unfold wrap64; omega
    rw [this]
theorem sumGo_cons (L : List S57) (a : S57) (r : List S57) : sumGo L (a :: r) = if (addP (valOf L a.f0) a.f1).2 = 0 then sumGo (insS L a.f0 (addP (valOf L a.f0) a.f1).1) r else .error (addP (valOf L a.f0) a.f1).2 := rfl
theorem sumGo_spec : ∀ (r L : List S57), Rises L → (∀ y ∈ L, 0 ≤ y.f1 ∧ y.f1 ≤ 9223372036854775807) → (∀ a ∈ r, 0 ≤ a.f1 ∧ a.f1 ≤ 9223372036854775807) →
    ((∀ x, valOf L x + tot r x ≤ 9223372036854775807) ∧ ∃ M, sumGo L r = .ok M ∧ Rises M ∧ ∀ y, y ∈ M ↔ (named L y.f0 = true ∨ named r y.f0 = true) ∧ y.f1 = valOf L y.f0 + tot r y.f0) ∨
    ((∃ x, 9223372036854775807 < valOf L x + tot r x) ∧ sumGo L r = .error 7) := by
  intro r
  induction r with
  | nil =>
    intro L hL hv _
    refine .inl ⟨fun x => by rw [tot_nil]; have := (val_ok hL hv x).2; omega, L, rfl, hL, fun y => ?_⟩
    rw [tot_nil, Int.add_zero, named_iff]
    constructor
    · intro hy
      exact ⟨.inl ⟨y, hy, rfl⟩, (val_mem hL hy).symm⟩
    · rintro ⟨⟨z, hz, e⟩ | h, h2⟩
      · have h3 := val_mem hL hz
        rw [e, ← h2] at h3
        have : y = z := by cases y; cases z; simp only at e h3; subst e; rw [h3]
        rw [this]; exact hz
      · simp [named] at h
  | cons a r ih =>
    intro L hL hv hr
    have ha := hr a (by simp)
    have hr' : ∀ b ∈ r, 0 ≤ b.f1 ∧ b.f1 ≤ 9223372036854775807 := fun b hb => hr b (by simp [hb])
    have h0 := val_ok hL hv a.f0
    have htn := tot_nonneg (l := r) (fun b hb => (hr' b hb).1)
    rw [sumGo_cons, addP_in h0 ha]
    by_cases hov : 9223372036854775807 < valOf L a.f0 + a.f1
    · rw [if_pos hov, if_neg (show ¬ ((7 : Int) = 0) by omega)]
      refine .inr ⟨⟨a.f0, ?_⟩, rfl⟩
      rw [tot_cons, if_pos rfl]
      have := htn a.f0
      omega
    · rw [if_neg hov, if_pos rfl]
      have key := ih (insS L a.f0 (valOf L a.f0 + a.f1)) (rises_ins hL) (fun y hy => by
        rcases (mem_ins hL).1 hy with rfl | ⟨hy, _⟩
        · exact ⟨by show 0 ≤ valOf L a.f0 + a.f1; omega, by show valOf L a.f0 + a.f1 ≤ _; omega⟩
        · exact hv y hy) hr'
      have hsame : ∀ x, valOf (insS L a.f0 (valOf L a.f0 + a.f1)) x + tot r x = valOf L x + tot (a :: r) x := by
        intro x
        rw [val_ins hL, tot_cons]
        by_cases e : x = a.f0
        · rw [if_pos e, if_pos e.symm, e]; omega
        · rw [if_neg e, if_neg (fun h => e h.symm)]; omega
      rcases key with ⟨h1, M, hM, hR, hmem⟩ | ⟨⟨x, hx⟩, hE⟩
      · refine .inl ⟨fun x => by rw [← hsame]; exact h1 x, M, hM, hR, fun y => ?_⟩
        rw [hmem, hsame, named_cons]
        have hn : named (insS L a.f0 (valOf L a.f0 + a.f1)) y.f0 = true ↔ named L y.f0 = true ∨ a.f0 = y.f0 := by
          rw [named_iff, named_iff]
          constructor
          · rintro ⟨z, hz, e⟩
            rcases (mem_ins hL).1 hz with rfl | ⟨hz, _⟩
            · exact .inr e
            · exact .inl ⟨z, hz, e⟩
          · rintro (⟨z, hz, e⟩ | e)
            · by_cases ez : z.f0 = a.f0
              · exact ⟨⟨a.f0, _⟩, (mem_ins hL).2 (.inl rfl), by rw [← e, ez]⟩
              · exact ⟨z, (mem_ins hL).2 (.inr ⟨hz, ez⟩), e⟩
            · exact ⟨⟨a.f0, _⟩, (mem_ins hL).2 (.inl rfl), e⟩
        rw [hn]
        constructor
        · rintro ⟨(h | h) | h, h2⟩
          · exact ⟨.inl h, h2⟩
          · exact ⟨.inr (.inl h), h2⟩
          · exact ⟨.inr (.inr h), h2⟩
        · rintro ⟨h | h | h, h2⟩
          · exact ⟨.inl (.inl h), h2⟩
          · exact ⟨.inl (.inr h), h2⟩
          · exact ⟨.inr h, h2⟩
      · exact .inr ⟨⟨x, by rw [← hsame]; exact hx⟩, hE⟩
def Canon (l M : List S57) : Prop := Rises M ∧ ∀ y, y ∈ M ↔ named l y.f0 = true ∧ y.f1 = tot l y.f0
theorem canon_unique {l M M' : List S57} (h : Canon l M) (h' : Canon l M') : M = M' := rises_eq h.1 h'.1 (fun y => (h.2 y).trans (h'.2 y).symm)
def InV (l : List S57) : Prop := ∀ a ∈ l, 0 ≤ a.f1 ∧ a.f1 ≤ 9223372036854775807
theorem summed_spec (ls : List (List S57)) (h : InV ls.flatten) :
    ((∀ x, tot ls.flatten x ≤ 9223372036854775807) ∧ ∃ M, Canon ls.flatten M ∧ quant_summed.f ls = if M.length > 16 then ([], 23) else (M, 0)) ∨
    ((∃ x, 9223372036854775807 < tot ls.flatten x) ∧ quant_summed.f ls = ([], 7)) := by
  rcases sumGo_spec ls.flatten [] List.Pairwise.nil (fun y hy => by simp at hy) h with ⟨h1, M, hM, hR, hmem⟩ | ⟨⟨x, hx⟩, hE⟩
  · refine .inl ⟨fun x => by have := h1 x; simp only [valOf] at this; omega, M, ⟨hR, fun y => ?_⟩, ?_⟩
    · rw [hmem]
      simp only [valOf, Int.zero_add]
      constructor
      · rintro ⟨h | h, h2⟩
        · simp [named] at h
        · exact ⟨h, h2⟩
      · rintro ⟨h, h2⟩
        exact ⟨.inr h, h2⟩
    · unfold quant_summed.f
      rw [hM]
      rfl
  · refine .inr ⟨⟨x, by simp only [valOf] at hx; omega⟩, ?_⟩
    unfold quant_summed.f
    rw [hE]
def normB (l : List S57) : Bool := l.all fun a => resP a.f0 && decide (0 ≤ a.f1)
def normalP (l : List S57) : List S57 × Int := if normB l = true then quant_summed.f [l] else ([], 31)
theorem normB_iff (l : List S57) : normB l = true ↔ ∀ a ∈ l, resP a.f0 = true ∧ 0 ≤ a.f1 := by
  unfold normB
  rw [List.all_eq_true]
  exact ⟨fun h a ha => by have := h a ha; rw [Bool.and_eq_true, decide_eq_true_eq] at this; exact this, fun h a ha => by rw [Bool.and_eq_true, decide_eq_true_eq]; exact h a ha⟩
theorem normGo_cons (k : Nat) (a : S57) (r : List S57) : normGo k (a :: r) = (quant_resource.f k a.f0).bind fun t => if t = true then (if a.f1 < 0 then some false else normGo k r) else some false := rfl
theorem normGo_ev : ∀ l : List S57, (∀ a ∈ l, a.f0.size < 4611686018427387904) → Ev (fun k => normGo k l) (normB l)
  | [], _ => Ev.now true
  | a :: r, h => by
    have ih := normGo_ev r (fun b hb => h b (by simp [hb]))
    have e : normB (a :: r) = (resP a.f0 && decide (0 ≤ a.f1) && normB r) := rfl
    rw [e]
    refine Ev.congr (fun k => normGo_cons k a r) (Ev.bind (resource_ev a.f0 (h a (by simp))) ?_)
    cases resP a.f0 with
    | false => exact Ev.congr (fun k => if_neg Bool.false_ne_true) (Ev.now _)
    | true =>
      refine Ev.congr (fun k => if_pos rfl) ?_
      by_cases hn : a.f1 < 0
      · rw [decide_eq_false (by omega)]
        exact Ev.congr (fun k => if_pos hn) (Ev.now _)
      · rw [decide_eq_true (by omega)]
        exact Ev.congr (fun k => if_neg hn) ih
theorem normal_ev (l : List S57) (hl : l.length ≤ 4000000) (h : ∀ a ∈ l, a.f0.size < 4611686018427387904) : Ev (fun k => quant_Normal.f k l) (normalP l) := by
  refine Ev.bind (normGo_ev l h) ?_
  unfold normalP
  cases hb : normB l with
  | false => exact Ev.congr (fun k => if_neg Bool.false_ne_true) (Ev.now _)
  | true =>
    have hok : sumOK [l] = true := by
      unfold sumOK
      rw [Bool.and_eq_true, decide_eq_true_eq, List.all_eq_true]
      refine ⟨fun r hr => ?_, by simp; omega⟩
      rw [List.mem_singleton] at hr
      rw [hr, List.all_eq_true]
      intro x hx
      exact decide_eq_true (resP_size ((normB_iff l).1 hb x hx).1)
    exact Ev.congr (fun k => if_pos rfl) (Ev.congr (fun k => if_pos hok) (Ev.now _))
theorem flat1 (l : List S57) : [l].flatten = l := by simp
theorem inv_of {l : List S57} (hb : normB l = true) (hv : ∀ a ∈ l, a.f1 ≤ 9223372036854775807) : InV l := fun a ha => ⟨((normB_iff l).1 hb a ha).2, hv a ha⟩
theorem normal_cases (l : List S57) (hv : ∀ a ∈ l, a.f1 ≤ 9223372036854775807) :
    (normalP l = ([], 31) ∨ normalP l = ([], 7) ∨ normalP l = ([], 23)) ∨
    ∃ M, normalP l = (M, 0) ∧ Canon l M ∧ validP M = 0 ∧ normB l = true ∧ (∀ x, tot l x ≤ 9223372036854775807) ∧ ∀ a ∈ M, a.f1 ≤ 9223372036854775807 := by
  unfold normalP
  cases hb : normB l with
  | false => exact .inl (.inl rfl)
  | true =>
    rw [if_pos rfl]
    have hs := summed_spec [l] (by rw [flat1]; exact inv_of hb hv)
    rw [flat1] at hs
    rcases hs with ⟨ht, M, hM, e⟩ | ⟨_, e⟩
    · by_cases h16 : M.length > 16
      · rw [e, if_pos h16]; exact .inl (.inr (.inr rfl))
      · rw [e, if_neg h16]
        have hpos := tot_nonneg (l := l) (fun a ha => ((normB_iff l).1 hb a ha).2)
        refine .inr ⟨M, rfl, hM, (valid_iff M).2 ⟨by omega, hM.1, fun y hy => ?_⟩, rfl, ht, fun y hy => ?_⟩
        · obtain ⟨h1, h2⟩ := (hM.2 y).1 hy
          obtain ⟨z, hz, ez⟩ := (named_iff l y.f0).1 h1
          exact ⟨by rw [← ez]; exact ((normB_iff l).1 hb z hz).1, by rw [h2]; exact hpos _⟩
        · rw [((hM.2 y).1 hy).2]; exact ht _
    · rw [e]; exact .inl (.inr (.inl rfl))
end Go.Proofs.YtejgbdclhlolkaaGreatDoor.Q
