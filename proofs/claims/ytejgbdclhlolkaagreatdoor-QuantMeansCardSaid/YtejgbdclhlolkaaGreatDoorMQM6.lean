/- What the statement QuantMeansCardSaid rests on, part 6 of 6: walks and plain laws; what of the printer's words it leans on. -/
import Derived.Test.YtejgbdclhlolkaaGreatDoorRows
import Derived.Test.YtejgbdclhlolkaaGreatDoorCards
import Derived.Test.YtejgbdclhlolkaaGreatDoorTie
import Derived.Test.YtejgbdclhlolkaaGreatDoorMQM3
import Derived.Test.YtejgbdclhlolkaaGreatDoorMQM5
import Derived.Laws.BitsLemmas
import Derived.Lib.ItoaNum
import Derived.LaidSub
import Derived.Lib.LaidTab
import Derived.ChangeSame
import Derived.WalkKit
import Derived.ProofKit
import Derived.OpenShut
import Derived.ShutString
import Derived.ChangeOld
import Derived.Below
import Derived.SizedLaws
import Derived.Deep.DeepHandedRow
import Derived.LaidMore
namespace Go.Proofs.YtejgbdclhlolkaaGreatDoor.Q
open Go.RowKit Go.Proofs.YtejgbdclhlolkaaGreatDoorW.PrintWords Go.Proofs.YtejgbdclhlolkaaGreatDoorW.PrintLast Go.Proofs.YtejgbdclhlolkaaGreatDoorW.PrintMore Go.Proofs.DivLaw
set_option linter.unusedVariables false
set_option linter.unusedSimpArgs false
theorem u64w (x : Int) : IntKind.u64.wrap x = x % 18446744073709551616 := by simp [IntKind.wrap, IntKind.bits, IntKind.signed]
theorem u64i {x : Int} (h0 : 0 ≤ x) (h1 : x < 18446744073709551616) : IntKind.u64.wrap x = x := by rw [u64w]; omega
theorem u64n {n : Nat} (h1 : n < 18446744073709551616) : IntKind.u64.wrap (n : Int) = n := u64i (by omega) (by omega)
theorem w64i {i : Int} (h0 : -9223372036854775808 ≤ i) (h1 : i ≤ 9223372036854775807) : wrap64 i = i := by unfold wrap64; omega
theorem mul_bound {a b : Nat} (ha : a ≤ 4294967296) (hb : b < 4294967296) : a * b < 18446744073709551616 := by
  have : a * b ≤ 4294967296 * b := Nat.mul_le_mul_right _ ha
  omega
theorem rest_is (u n p y : Nat) (h : p ≤ u * 4294967296 + n) (hy : u * 4294967296 + n - p < 18446744073709551616) :
    IntKind.u64.wrap (IntKind.u64.wrap (IntKind.u64.wrap ((u : Int) * 4294967296) + (n : Int)) - IntKind.u64.wrap (p : Int)) = ((u * 4294967296 + n - p : Nat) : Int) := by
  rw [u64w, u64w, u64w, u64w]; omega
theorem div_l1 (V1 V0 R m s y q1 : Nat) (hy : y = V1 * 4294967296 + V0) (hV1 : 2147483648 ≤ V1) (hV1' : V1 < 4294967296) (hV0 : V0 < 4294967296) (hm : m < 4294967296) (hR : R < y) (hq1 : q1 < 4294967296) :
    ∀ q r : Nat, q * V1 + r = R → r < 4294967296 → (R * 4294967296 + m) / y ≤ q → q ≤ 4294967297 →
      Ev (fun k => bits_Div64.l1 k (y : Int) (s : Int) (V1 : Int) (V0 : Int) (m : Int) (q1 : Int) (r : Int) (R : Int) (q : Int))
        (((q1 * 4294967296 + (R * 4294967296 + m) / y : Nat) : Int), shr .u64 ((R * 4294967296 + m - (R * 4294967296 + m) / y * y : Nat) : Int) (s : Int)) := by
  intro q
  have hfin : ∀ g : Nat, g = (R * 4294967296 + m) / y → (if (0 : Int) ≤ (s : Int) then some (IntKind.u64.wrap ((IntKind.u64.wrap ((q1 : Int) * 4294967296)) + (g : Int)), shr .u64 (IntKind.u64.wrap ((IntKind.u64.wrap ((IntKind.u64.wrap ((R : Int) * 4294967296)) + (m : Int))) - (IntKind.u64.wrap ((g : Int) * (y : Int))))) (s : Int)) else none)
      = some (((q1 * 4294967296 + (R * 4294967296 + m) / y : Nat) : Int), shr .u64 ((R * 4294967296 + m - (R * 4294967296 + m) / y * y : Nat) : Int) (s : Int)) := by
    intro g hg
    have hle := Nat.div_mul_le_self (R * 4294967296 + m) y
    have hlt := Nat.lt_div_mul_add (a := R * 4294967296 + m) (b := y) (by omega)
    have hbig := digit_big V1 V0 R m (by omega) hm (by omega)
    rw [← hy] at hbig
    rw [← hg] at hle hlt hbig ⊢
    rw [if_pos (by omega), ← Int.natCast_mul, rest_is R m (g * y) y (by omega) (by omega), u64w, u64w]
    congr 2
    omega
  induction q with
  | zero =>
    intro r hq hr hge hle
    have hQ : 0 = (R * 4294967296 + m) / y := (Nat.le_zero.1 hge).symm
    refine Ev.step (f := fun k => bits_Div64.j4 k (y : Int) (s : Int) (V1 : Int) (V0 : Int) (m : Int) (q1 : Int) (r : Int) (R : Int) ((0 : Nat) : Int) false) (fun k => ?_) (Ev.step (f := fun _ => some _) (fun k => ?_) (Ev.now _))
    · simp only [bits_Div64.l1]
      rw [if_neg (by omega), u64w, u64w, u64w, decide_eq_false (by omega)]
    · simp only [bits_Div64.j4]
      rw [if_neg Bool.false_ne_true]
      exact hfin 0 hQ
  | succ q ih =>
    intro r hq hr hge hle
    by_cases ht : 4294967296 ≤ q + 1 ∨ 4294967296 * r + m < (q + 1) * V0
    · have hge' : (R * 4294967296 + m) / y ≤ q := by
        have : (R * 4294967296 + m) / y < q + 1 := by
          rcases ht with h | h
          · have := digit_big V1 V0 R m (by omega) hm (by omega)
            rw [← hy] at this; omega
          · have := digit_less V1 V0 R m (q + 1) r hq h (by omega)
            rw [← hy] at this; exact this
        omega
      rw [Nat.succ_mul] at hq
      refine Ev.step (f := fun k => bits_Div64.j4 k (y : Int) (s : Int) (V1 : Int) (V0 : Int) (m : Int) (q1 : Int) (r : Int) (R : Int) ((q + 1 : Nat) : Int) true) (fun k => ?_) ?_
      · simp only [bits_Div64.l1]
        by_cases h : 4294967296 ≤ q + 1
        · rw [if_pos (by omega)]
        · rw [if_neg (by omega)]
          have hb := mul_bound (a := q + 1) (b := V0) (by omega) hV0
          have h2 : 4294967296 * r + m < (q + 1) * V0 := by omega
          rw [← Int.natCast_mul, u64n hb, u64w, u64w, decide_eq_true (by omega)]
      · by_cases hbr : 4294967296 ≤ r + V1
        · have hQ : q = (R * 4294967296 + m) / y := by
            rw [hy] at hge' ⊢
            refine digit_is V1 V0 R m q (r + V1) (by omega) ?_ hge' (by omega)
            have := mul_bound (a := q) (b := V0) (by omega) hV0
            omega
          refine Ev.step (f := fun _ => some _) (fun k => ?_) (Ev.now _)
          simp only [bits_Div64.j4]
          rw [if_pos trivial, u64i (x := (r : Int) + (V1 : Int)) (by omega) (by omega), if_pos (by omega), u64i (x := ((q + 1 : Nat) : Int) - 1) (by omega) (by omega), show ((q + 1 : Nat) : Int) - 1 = (q : Int) by omega]
          exact hfin q hQ
        · refine Ev.step (f := fun k => bits_Div64.l1 k (y : Int) (s : Int) (V1 : Int) (V0 : Int) (m : Int) (q1 : Int) ((r + V1 : Nat) : Int) (R : Int) (q : Int)) (fun k => ?_) (ih (r + V1) (by omega) (by omega) hge' (by omega))
          simp only [bits_Div64.j4]
          rw [if_pos trivial, u64i (x := (r : Int) + (V1 : Int)) (by omega) (by omega), if_neg (by omega), u64i (x := ((q + 1 : Nat) : Int) - 1) (by omega) (by omega), show ((q + 1 : Nat) : Int) - 1 = (q : Int) by omega]
          rfl
    · have hQ : q + 1 = (R * 4294967296 + m) / y := by
        rw [hy] at hge ⊢
        exact digit_is V1 V0 R m (q + 1) r hq (by omega) hge (by omega)
      refine Ev.step (f := fun k => bits_Div64.j4 k (y : Int) (s : Int) (V1 : Int) (V0 : Int) (m : Int) (q1 : Int) (r : Int) (R : Int) ((q + 1 : Nat) : Int) false) (fun k => ?_) (Ev.step (f := fun _ => some _) (fun k => ?_) (Ev.now _))
      · simp only [bits_Div64.l1]
        have hb := mul_bound (a := q + 1) (b := V0) (by omega) hV0
        rw [if_neg (by omega), ← Int.natCast_mul, u64n hb, u64w, u64w, decide_eq_false (by omega)]
      · simp only [bits_Div64.j4]
        rw [if_neg Bool.false_ne_true]
        exact hfin (q + 1) hQ
theorem div_l0 {α : Type} (V1 V0 u n m s y : Nat) (hy : y = V1 * 4294967296 + V0) (hV1 : 2147483648 ≤ V1) (hV1' : V1 < 4294967296) (hV0 : V0 < 4294967296) (hn : n < 4294967296) (hu : u < y) (res : Int × Int)
    (hK : Ev (fun k => bits_Div64.j2 k (y : Int) (s : Int) (V1 : Int) (V0 : Int) (u : Int) (n : Int) (m : Int) (((u * 4294967296 + n) / y : Nat) : Int)) res) :
    ∀ q r : Nat, q * V1 + r = u → r < 4294967296 → (u * 4294967296 + n) / y ≤ q → q ≤ 4294967297 →
      Ev (fun k => bits_Div64.l0 k (y : Int) (s : Int) (V1 : Int) (V0 : Int) (u : Int) (n : Int) (m : Int) (q : Int) (r : Int)) res := by
  intro q
  induction q with
  | zero =>
    intro r hq hr hge hle
    have hQ : 0 = (u * 4294967296 + n) / y := (Nat.le_zero.1 hge).symm
    rw [← hQ] at hK
    refine Ev.step (f := fun k => bits_Div64.j1 k (y : Int) (s : Int) (V1 : Int) (V0 : Int) (u : Int) (n : Int) (m : Int) ((0 : Nat) : Int) (r : Int) false) (fun k => ?_) (Ev.step (fun k => ?_) hK)
    · simp only [bits_Div64.l0]
      rw [if_neg (by omega), u64w, u64w, u64w, decide_eq_false (by omega)]
    · simp only [bits_Div64.j1]
      rw [if_neg Bool.false_ne_true]
  | succ q ih =>
    intro r hq hr hge hle
    by_cases ht : 4294967296 ≤ q + 1 ∨ 4294967296 * r + n < (q + 1) * V0
    · have hge' : (u * 4294967296 + n) / y ≤ q := by
        have : (u * 4294967296 + n) / y < q + 1 := by
          rcases ht with h | h
          · have := digit_big V1 V0 u n (by omega) hn (by omega)
            rw [← hy] at this; omega
          · have := digit_less V1 V0 u n (q + 1) r hq h (by omega)
            rw [← hy] at this; exact this
        omega
      rw [Nat.succ_mul] at hq
      refine Ev.step (f := fun k => bits_Div64.j1 k (y : Int) (s : Int) (V1 : Int) (V0 : Int) (u : Int) (n : Int) (m : Int) ((q + 1 : Nat) : Int) (r : Int) true) (fun k => ?_) ?_
      · simp only [bits_Div64.l0]
        by_cases h : 4294967296 ≤ q + 1
        · rw [if_pos (by omega)]
        · rw [if_neg (by omega)]
          have hb := mul_bound (a := q + 1) (b := V0) (by omega) hV0
          have h2 : 4294967296 * r + n < (q + 1) * V0 := by omega
          rw [← Int.natCast_mul, u64n hb, u64w, u64w, decide_eq_true (by omega)]
      · by_cases hbr : 4294967296 ≤ r + V1
        · have hQ : q = (u * 4294967296 + n) / y := by
            rw [hy] at hge' ⊢
            refine digit_is V1 V0 u n q (r + V1) (by omega) ?_ hge' (by omega)
            have := mul_bound (a := q) (b := V0) (by omega) hV0
            omega
          rw [← hQ] at hK
          refine Ev.step (fun k => ?_) hK
          simp only [bits_Div64.j1]
          rw [if_pos trivial, u64i (x := (r : Int) + (V1 : Int)) (by omega) (by omega), if_pos (by omega), u64i (x := ((q + 1 : Nat) : Int) - 1) (by omega) (by omega), show ((q + 1 : Nat) : Int) - 1 = (q : Int) by omega]
        · refine Ev.step (f := fun k => bits_Div64.l0 k (y : Int) (s : Int) (V1 : Int) (V0 : Int) (u : Int) (n : Int) (m : Int) (q : Int) ((r + V1 : Nat) : Int)) (fun k => ?_) (ih (r + V1) (by omega) (by omega) hge' (by omega))
          simp only [bits_Div64.j1]
          rw [if_pos trivial, u64i (x := (r : Int) + (V1 : Int)) (by omega) (by omega), if_neg (by omega), u64i (x := ((q + 1 : Nat) : Int) - 1) (by omega) (by omega), show ((q + 1 : Nat) : Int) - 1 = (q : Int) by omega]
          rfl
    · have hQ : q + 1 = (u * 4294967296 + n) / y := by
        rw [hy] at hge ⊢
        exact digit_is V1 V0 u n (q + 1) r hq (by omega) hge (by omega)
      rw [← hQ] at hK
      refine Ev.step (f := fun k => bits_Div64.j1 k (y : Int) (s : Int) (V1 : Int) (V0 : Int) (u : Int) (n : Int) (m : Int) ((q + 1 : Nat) : Int) (r : Int) false) (fun k => ?_) (Ev.step (fun k => ?_) hK)
      · simp only [bits_Div64.l0]
        have hb := mul_bound (a := q + 1) (b := V0) (by omega) hV0
        rw [if_neg (by omega), ← Int.natCast_mul, u64n hb, u64w, u64w, decide_eq_false (by omega)]
      · simp only [bits_Div64.j1]
        rw [if_neg Bool.false_ne_true]
theorem div_j2 (V1 V0 u n m s y : Nat) (hy : y = V1 * 4294967296 + V0) (hV1 : 2147483648 ≤ V1) (hV1' : V1 < 4294967296) (hV0 : V0 < 4294967296) (hn : n < 4294967296) (hm : m < 4294967296) (hu : u < y) :
    Ev (fun k => bits_Div64.j2 k (y : Int) (s : Int) (V1 : Int) (V0 : Int) (u : Int) (n : Int) (m : Int) (((u * 4294967296 + n) / y : Nat) : Int))
      ((((u * 18446744073709551616 + n * 4294967296 + m) / y : Nat) : Int), shr .u64 (((u * 18446744073709551616 + n * 4294967296 + m) % y : Nat) : Int) (s : Int)) := by
  have hle := Nat.div_mul_le_self (u * 4294967296 + n) y
  have hlt := Nat.lt_div_mul_add (a := u * 4294967296 + n) (b := y) (by omega)
  have hbig := digit_big V1 V0 u n (by omega) hn (by omega)
  rw [← hy] at hbig
  have two := two_digits y u n m ((u * 4294967296 + n) / y) (((u * 4294967296 + n - (u * 4294967296 + n) / y * y) * 4294967296 + m) / y) (by omega) rfl rfl hm
  obtain ⟨q1, hq⟩ : ∃ q1, q1 = (u * 4294967296 + n) / y := ⟨_, rfl⟩
  rw [← hq] at hle hlt hbig two ⊢
  obtain ⟨R, hR⟩ : ∃ R, R = u * 4294967296 + n - q1 * y := ⟨_, rfl⟩
  rw [← hR] at two
  have hRy : R < y := by omega
  have hR1 : R / V1 * V1 + (R - R / V1 * V1) = R := by have := Nat.div_mul_le_self R V1; omega
  have hr : R - R / V1 * V1 < V1 := by have := Nat.lt_div_mul_add (a := R) (b := V1) (by omega); omega
  have hg := guess_ge V1 V0 R m hm (by omega)
  rw [← hy] at hg
  have hgl := guess_le V1 V0 R (by omega) hV0 hV1
  have key := div_l1 V1 V0 R m s y q1 hy hV1 hV1' hV0 hm hRy hbig (R / V1) (R - R / V1 * V1) hR1 (by omega) hg hgl
  rw [two.1, two.2] at key
  refine Ev.step (fun k => ?_) key
  simp only [bits_Div64.j2]
  have e1 : IntKind.u64.wrap (IntKind.u64.wrap (IntKind.u64.wrap ((u : Int) * 4294967296) + (n : Int)) - IntKind.u64.wrap ((q1 : Int) * (y : Int))) = (R : Int) := by
    rw [← Int.natCast_mul, rest_is u n (q1 * y) y hle (by omega), hR]
  rw [if_neg (by omega), e1, Int.tdiv_eq_ediv_of_nonneg (by omega), ← Int.natCast_ediv, u64n (n := R / V1) (by omega), ← Int.natCast_mul]
  have hle2 := Nat.div_mul_le_self R V1
  rw [u64n (n := R / V1 * V1) (by omega), u64i (by omega) (by omega), ← Int.natCast_sub hle2]
theorem and_mask (x : Nat) (h : x < 18446744073709551616) : Go.bits .and .u64 (x : Int) 4294967295 = ((x % 4294967296 : Nat) : Int) := by
  have h1 := (bits_nat .u64 64 (by decide) (fun n h0 h1 => by rw [u64w]; omega) x 4294967295 (by omega) (by decide)).1
  have e : x &&& 4294967295 = x % 4294967296 := Nat.and_two_pow_sub_one_eq_mod x 32
  rw [e] at h1
  exact h1
theorem or_join (a b s : Nat) (hb : b < 2 ^ s) (h : a * 2 ^ s + b < 18446744073709551616) : Go.bits .or .u64 ((a * 2 ^ s : Nat) : Int) (b : Int) = ((a * 2 ^ s + b : Nat) : Int) := by
  have h1 := (bits_nat .u64 64 (by decide) (fun n h0 h1 => by rw [u64w]; omega) (a * 2 ^ s) b (by omega) (by omega)).2
  have e : a * 2 ^ s ||| b = a * 2 ^ s + b := by rw [Nat.mul_comm, Nat.two_pow_add_eq_or_of_lt hb]
  rw [e] at h1
  exact h1
theorem shl_nat (x s : Nat) (hs : s ≤ 64) : shl .u64 (x : Int) (s : Int) = ((x * 2 ^ s % 18446744073709551616 : Nat) : Int) := by
  unfold shl
  have e : min (s : Int).toNat IntKind.u64.bits = s := by show min (s : Int).toNat 64 = s; omega
  rw [e, u64w]
  have e2 : (x : Int) * 2 ^ s = ((x * 2 ^ s : Nat) : Int) := by simp
  rw [e2]
  omega
theorem shr_nat (x s : Nat) (hs : s ≤ 64) : shr .u64 (x : Int) (s : Int) = ((x / 2 ^ s : Nat) : Int) := by
  unfold shr
  have e : min (s : Int).toNat IntKind.u64.bits = s := by show min (s : Int).toNat 64 = s; omega
  rw [e]
  have e2 : ((2 : Int) ^ s) = ((2 ^ s : Nat) : Int) := by simp
  rw [e2, ← Int.natCast_ediv]
theorem shift_sum (P T hi lo : Nat) (hPT : P * T = 18446744073709551616) (hT : 0 < T) :
    (hi * P + lo / T) * 18446744073709551616 + lo * P % 18446744073709551616 = P * (hi * 18446744073709551616 + lo) := by
  have e1 : lo * P % 18446744073709551616 = lo % T * P := by rw [← hPT, Nat.mul_comm P T, Nat.mul_mod_mul_right]
  have e2 := Nat.div_add_mod lo T
  rw [e1, ← hPT]
  generalize lo / T = a at *
  generalize lo % T = b at *
  rw [← e2]
  simp only [Nat.mul_add, Nat.add_mul]
  have : hi * P * (P * T) = P * (hi * (P * T)) := by rw [Nat.mul_comm hi P, Nat.mul_assoc]
  have : a * (P * T) = P * (T * a) := by rw [Nat.mul_comm a (P * T), Nat.mul_assoc]
  have : b * P = P * b := Nat.mul_comm b P
  omega
theorem pow_split (s : Nat) (hs : s ≤ 64) : 2 ^ s * 2 ^ (64 - s) = 18446744073709551616 := by
  rw [← Nat.pow_add, show s + (64 - s) = 64 by omega]
theorem div_ev (hi lo d : Nat) (hd : 0 < d) (hd64 : d < 18446744073709551616) (hhi : hi < d) (hlo : lo < 18446744073709551616) :
    Ev (fun k => bits_Div64.f k (hi : Int) (lo : Int) (d : Int)) ((((hi * 18446744073709551616 + lo) / d : Nat) : Int), (((hi * 18446744073709551616 + lo) % d : Nat) : Int)) := by
  by_cases h0 : hi = 0
  · subst h0
    refine Ev.congr (f := fun _ => some _) (fun k => ?_) (Ev.now _)
    unfold bits_Div64.f
    rw [if_neg (by omega), if_neg (by omega), if_pos (by omega), Int.tdiv_eq_ediv_of_nonneg (by omega), Int.tmod_eq_emod_of_nonneg (by omega), ← Int.natCast_ediv, ← Int.natCast_emod, u64n (Nat.lt_of_le_of_lt (Nat.div_le_self _ _) hlo)]
    simp
  · obtain ⟨hL1, hL2, hL3⟩ := Lib.bitLenAux_bounds 64 d (by omega) (by omega)
    have hL64 : Lib.bitLenAux 64 d ≤ 64 := by
      rcases Nat.lt_or_ge 64 (Lib.bitLenAux 64 d) with h | h
      · have := Nat.pow_le_pow_right (n := 2) (by decide) (show 64 ≤ Lib.bitLenAux 64 d - 1 by omega)
        omega
      · exact h
    have hLZ : bits_LeadingZeros64.f (d : Int) = some ((64 - Lib.bitLenAux 64 d : Nat) : Int) := by
      unfold bits_LeadingZeros64.f
      rw [if_pos ⟨by omega, by omega⟩]
      congr 1
      show (64 : Int) - (Lib.bitLenAux 64 (d : Int).toNat : Int) = _
      rw [Int.toNat_natCast]
      omega
    generalize Lib.bitLenAux 64 d = L at *
    obtain ⟨s, hs⟩ : ∃ s, s = 64 - L := ⟨_, rfl⟩
    rw [← hs] at hLZ
    have hs64 : s ≤ 63 := by omega
    have hPT := pow_split s (by omega)
    have hLs : 2 ^ (L - 1) * 2 ^ s = 9223372036854775808 := by rw [← Nat.pow_add, show L - 1 + s = 63 by omega]
    have hLs2 : 2 ^ L * 2 ^ s = 18446744073709551616 := by rw [← Nat.pow_add, show L + s = 64 by omega]
    have hy1 : 9223372036854775808 ≤ d * 2 ^ s := by rw [← hLs]; exact Nat.mul_le_mul_right _ hL2
    have hP : 0 < 2 ^ s := Nat.two_pow_pos s
    have hT : 0 < 2 ^ (64 - s) := Nat.two_pow_pos _
    have hy2 : d * 2 ^ s < 18446744073709551616 := by rw [← hLs2]; exact Nat.mul_lt_mul_of_pos_right hL3 hP
    have hloT : lo / 2 ^ (64 - s) < 2 ^ s := by rw [Nat.div_lt_iff_lt_mul hT, hPT]; exact hlo
    have hhy : hi * 2 ^ s + 2 ^ s ≤ d * 2 ^ s := by rw [← Nat.succ_mul]; exact Nat.mul_le_mul_right _ hhi
    have hsum := shift_sum (2 ^ s) (2 ^ (64 - s)) hi lo hPT hT
    have hor := or_join hi (lo / 2 ^ (64 - s)) s hloT (by omega)
    have hshl1 := shl_nat d s (by omega)
    have hshl2 := shl_nat hi s (by omega)
    have hshl3 := shl_nat lo s (by omega)
    have hshr1 := shr_nat lo (64 - s) (by omega)
    rw [Nat.mod_eq_of_lt hy2] at hshl1
    rw [Nat.mod_eq_of_lt (by omega)] at hshl2
    have hquo : (2 ^ s * (hi * 18446744073709551616 + lo)) / (d * 2 ^ s) = (hi * 18446744073709551616 + lo) / d := by rw [Nat.mul_comm d, Nat.mul_div_mul_left _ _ hP]
    have hrem : (2 ^ s * (hi * 18446744073709551616 + lo)) % (d * 2 ^ s) / 2 ^ s = (hi * 18446744073709551616 + lo) % d := by rw [Nat.mul_comm d, Nat.mul_mod_mul_left, Nat.mul_div_cancel_left _ hP]
    have hx : lo * 2 ^ s % 18446744073709551616 < 18446744073709551616 := Nat.mod_lt _ (by decide)
    obtain ⟨N, hN⟩ : ∃ N, N = hi * 18446744073709551616 + lo := ⟨_, rfl⟩
    obtain ⟨x, hxx⟩ : ∃ x, x = lo * 2 ^ s % 18446744073709551616 := ⟨_, rfl⟩
    obtain ⟨y, hyy⟩ : ∃ y, y = d * 2 ^ s := ⟨_, rfl⟩
    obtain ⟨u, huu⟩ : ∃ u, u = hi * 2 ^ s + lo / 2 ^ (64 - s) := ⟨_, rfl⟩
    rw [← hN] at hsum hquo hrem ⊢
    rw [← hxx] at hsum hshl3 hx
    rw [← hyy] at hy1 hy2 hhy hshl1 hquo hrem
    rw [← huu] at hsum hor
    have hu : u < y := by omega
    have hV1 : 2147483648 ≤ y / 4294967296 := by omega
    have hj := div_j2 (y / 4294967296) (y % 4294967296) u (x / 4294967296) (x % 4294967296) s y (Nat.div_add_mod' y 4294967296).symm hV1 (by omega) (by omega) (by omega) (by omega) hu
    rw [show u * 18446744073709551616 + x / 4294967296 * 4294967296 + x % 4294967296 = 2 ^ s * N by rw [Nat.add_assoc, Nat.div_add_mod' x 4294967296]; exact hsum, shr_nat _ s (by omega), hquo, hrem] at hj
    have hr1 : u / (y / 4294967296) * (y / 4294967296) + (u - u / (y / 4294967296) * (y / 4294967296)) = u := by have := Nat.div_mul_le_self u (y / 4294967296); omega
    have hr2 : u - u / (y / 4294967296) * (y / 4294967296) < y / 4294967296 := by have := Nat.lt_div_mul_add (a := u) (b := y / 4294967296) (by omega); omega
    have hg := guess_ge (y / 4294967296) (y % 4294967296) u (x / 4294967296) (by omega) (by omega)
    rw [Nat.div_add_mod' y 4294967296] at hg
    have hgl := guess_le (y / 4294967296) (y % 4294967296) u (by omega) (by omega) hV1
    have key := div_l0 (α := Unit) (y / 4294967296) (y % 4294967296) u (x / 4294967296) (x % 4294967296) s y (Nat.div_add_mod' y 4294967296).symm hV1 (by omega) (by omega) (by omega) hu _ hj (u / (y / 4294967296)) (u - u / (y / 4294967296) * (y / 4294967296)) hr1 (by omega) hg hgl
    refine Ev.congr (fun k => ?_) key
    unfold bits_Div64.f
    rw [if_neg (by omega), if_neg (by omega), if_neg (by omega), hLZ]
    simp only [Option.bind_some]
    have ey : ((y : Nat) : Int) / 4294967296 = ((y / 4294967296 : Nat) : Int) := by omega
    have ex : ((x : Nat) : Int) / 4294967296 = ((x / 4294967296 : Nat) : Int) := by omega
    rw [u64n (n := s) (by omega), show (64 : Int) - (s : Int) = ((64 - s : Nat) : Int) by omega, u64n (n := 64 - s) (by omega), hshl1, hshl2, hshl3, hshr1, hor, ey, ex, if_pos (by omega), if_pos (by omega), if_neg (by omega), and_mask y (by omega), and_mask x (by omega), Int.tdiv_eq_ediv_of_nonneg (by omega), ← Int.natCast_ediv, u64n (n := u / (y / 4294967296)) (by omega), ← Int.natCast_mul, u64n (n := u / (y / 4294967296) * (y / 4294967296)) (by omega), ← Int.natCast_sub (by omega), u64n (by omega)]
def ceilP (N d : Nat) : Int × Int := if (N + d - 1) / d ≤ 9223372036854775807 then ((((N + d - 1) / d : Nat) : Int), 0) else (0, 7)
theorem ceil_eq (N d : Nat) (hd : 0 < d) : (N + d - 1) / d = if 0 < N % d then N / d + 1 else N / d := by
  have h := Nat.div_add_mod N d
  have hm := Nat.mod_lt N hd
  generalize N / d = q at *
  generalize N % d = r at *
  subst h
  split
  · rw [show d * q + r + d - 1 = (r - 1) + d * (q + 1) by rw [Nat.mul_succ]; omega, Nat.add_mul_div_left _ _ hd, Nat.div_eq_of_lt (by omega)]; omega
  · rw [show d * q + r + d - 1 = (d - 1) + d * q by omega, Nat.add_mul_div_left _ _ hd, Nat.div_eq_of_lt (by omega)]; omega
theorem over_ev (hi lo d : Nat) (hd : 0 < d) (hd64 : d < 18446744073709551616) (hhi : hi < 18446744073709551616) (hlo : lo < 18446744073709551616) :
    Ev (fun k => quant_over.f k (hi : Int) (lo : Int) (d : Int)) (ceilP (hi * 18446744073709551616 + lo) d) := by
  by_cases h : d ≤ hi
  · have hbig : 18446744073709551616 ≤ (hi * 18446744073709551616 + lo + d - 1) / d := by
      rw [Nat.le_div_iff_mul_le hd]
      have : 18446744073709551616 * d ≤ 18446744073709551616 * hi := Nat.mul_le_mul_left _ h
      omega
    refine Ev.congr (f := fun _ => some _) (fun k => ?_) (Ev.now _)
    unfold quant_over.f ceilP
    rw [if_pos (by omega), if_neg (by omega)]
  · refine Ev.congr (fun k => by unfold quant_over.f; rw [if_neg (by omega)]) (Ev.bind (div_ev hi lo d hd hd64 (by omega) hlo) (Ev.congr (f := fun _ => some _) (fun k => ?_) (Ev.now _)))
    unfold ceilP
    rw [ceil_eq _ _ hd]
    have hq : (hi * 18446744073709551616 + lo) / d < 18446744073709551616 := by
      rw [Nat.div_lt_iff_lt_mul hd]
      have : 18446744073709551616 * (hi + 1) ≤ 18446744073709551616 * d := Nat.mul_le_mul_left _ (by omega)
      omega
    obtain ⟨q, hqq⟩ : ∃ q, q = (hi * 18446744073709551616 + lo) / d := ⟨_, rfl⟩
    obtain ⟨r, hrr⟩ : ∃ r, r = (hi * 18446744073709551616 + lo) % d := ⟨_, rfl⟩
    rw [← hqq] at hq
    rw [← hqq, ← hrr]
    clear hqq hrr
    simp only
    by_cases hr : 0 < r
    · rw [if_pos (by omega), if_pos hr]
      by_cases hz : q + 1 = 18446744073709551616
      · rw [show (q : Int) + 1 = 18446744073709551616 by omega, if_pos (by rw [u64w]; rfl), if_neg (by omega)]
      · rw [u64i (x := (q : Int) + 1) (by omega) (by omega), if_neg (by omega)]
        by_cases hb : q + 1 ≤ 9223372036854775807
        · rw [if_neg (by omega), if_pos hb, w64i (by omega) (by omega)]
          rfl
        · rw [if_pos (by omega), if_neg hb]
    · rw [if_neg (by omega), if_neg hr]
      by_cases hb : q ≤ 9223372036854775807
      · rw [if_neg (by omega), if_pos hb, w64i (by omega) (by omega)]
      · rw [if_pos (by omega), if_neg hb]
end Go.Proofs.YtejgbdclhlolkaaGreatDoor.Q
namespace Go.Proofs.YtejgbdclhlolkaaGreatDoor.Q
open Go.RowKit Go.Proofs.YtejgbdclhlolkaaGreatDoorW.PrintWords Go.Proofs.YtejgbdclhlolkaaGreatDoorW.PrintLast
set_option linter.unusedVariables false
set_option linter.unusedSimpArgs false
def isD (b : UInt8) : Bool := decide (48 ≤ b.toNat) && decide (b.toNat ≤ 57)
theorem contains_digit (b : UInt8) : digitsB.data.toList.contains b = isD b := by
  unfold isD digitsB
  rw [Bool.eq_iff_iff]
  simp only [List.contains_iff_mem, List.mem_cons, List.mem_nil_iff, or_false, Bool.and_eq_true, decide_eq_true_eq, ← UInt8.toNat_inj]
  simp
  omega
theorem dropWhile_nil {α : Type} (p : α → Bool) : ∀ l : List α, l.dropWhile p = [] ↔ ∀ x ∈ l, p x = true
  | [] => by simp
  | a :: l => by
    rw [List.dropWhile_cons]
    cases h : p a with
    | true => rw [if_pos rfl, dropWhile_nil p l]; simp [h]
    | false => rw [if_neg Bool.false_ne_true]; simp [h]
theorem dropWhile_head {α : Type} (p : α → Bool) : ∀ (l : List α) (a : α) (r : List α), l.dropWhile p = a :: r → p a = false
  | [], a, r, h => by simp at h
  | b :: l, a, r, h => by
    rw [List.dropWhile_cons] at h
    cases hb : p b with
    | true => rw [hb, if_pos rfl] at h; exact dropWhile_head p l a r h
    | false => rw [hb, if_neg Bool.false_ne_true] at h; injection h with h1 _; rw [← h1]; exact hb
theorem trim_nil (l : List UInt8) : Lib.trimS l digitsB.data.toList = [] ↔ ∀ b ∈ l, isD b = true := by
  have hc : (fun b => digitsB.data.toList.contains b) = isD := funext contains_digit
  unfold Lib.trimS Lib.trimLeftS Lib.trimRightS
  rw [hc, dropWhile_nil]
  constructor
  · intro h
    have hr : ∀ b ∈ l.reverse, isD b = true := by
      rw [← dropWhile_nil]
      cases hd : l.reverse.dropWhile isD with
      | nil => rfl
      | cons a r =>
        rw [hd] at h
        have h1 := h a (by simp)
        rw [dropWhile_head isD _ a r hd] at h1
        cases h1
    exact fun b hb => hr b (by simpa using hb)
  · intro h b hb
    have hr : l.reverse.dropWhile isD = [] := (dropWhile_nil isD _).2 (fun b hb => h b (by simpa using hb))
    rw [hr] at hb
    simp at hb
theorem allD_iff (s : ByteArray) : allD s = true ↔ s.data.toList ≠ [] ∧ ∀ b ∈ s.data.toList, isD b = true := by
  unfold allD
  rw [Bool.and_eq_true, ByteArray.toList_eq, Bool.not_eq_true', List.isEmpty_eq_false_iff, List.isEmpty_iff, trim_nil]
theorem allD_true {l : List UInt8} (h0 : l ≠ []) (h : ∀ b ∈ l, isD b = true) : allD ⟨l.toArray⟩ = true := (allD_iff _).2 ⟨by simpa using h0, by simpa using h⟩
theorem index_no : ∀ {l : List UInt8}, (∀ b ∈ l, b ≠ 46) → Lib.index l [46] = -1
  | [], _ => rfl
  | b :: l, h => by
    have h1 := index_no (l := l) (fun x hx => h x (by simp [hx]))
    have h2 : ([46] : List UInt8).isPrefixOf (b :: l) = false := by
      simp only [List.isPrefixOf, Bool.and_true, beq_eq_false_iff_ne]
      exact fun e => h b (by simp) e.symm
    unfold Lib.index
    rw [h2, h1]
    rfl
theorem index_at : ∀ {w : List UInt8} (r : List UInt8), (∀ b ∈ w, b ≠ 46) → Lib.index (w ++ 46 :: r) [46] = w.length
  | [], r, _ => by
    rw [List.nil_append]
    unfold Lib.index
    rw [if_pos (by simp [List.isPrefixOf])]
    rfl
  | b :: w, r, h => by
    have h1 := index_at (w := w) r (fun x hx => h x (by simp [hx]))
    have h2 : ([46] : List UInt8).isPrefixOf (b :: (w ++ 46 :: r)) = false := by
      simp only [List.isPrefixOf, Bool.and_true, beq_eq_false_iff_ne]
      exact fun e => h b (by simp) e.symm
    rw [List.cons_append]
    unfold Lib.index
    rw [h2, h1, if_neg Bool.false_ne_true, if_neg (by rw [beq_iff_eq]; omega), List.length_cons]
    omega
theorem cut_no {l : List UInt8} (h : ∀ b ∈ l, b ≠ 46) : Lib.cut l dotSep.data.toList = (l, [], false) := by
  unfold Lib.cut
  rw [show dotSep.data.toList = [46] from rfl, index_no h]
  rfl
theorem cut_dot {w : List UInt8} (r : List UInt8) (h : ∀ b ∈ w, b ≠ 46) : Lib.cut (w ++ 46 :: r) dotSep.data.toList = (w, r, true) := by
  unfold Lib.cut
  rw [show dotSep.data.toList = [46] from rfl, index_at r h, if_pos (by omega), Int.toNat_natCast, List.take_left' rfl]
  congr 2
  show (w ++ 46 :: r).drop (w.length + 1) = r
  rw [← List.drop_drop, List.drop_left' rfl]
  rfl
theorem digit_no_dot {b : UInt8} (h : isD b = true) : b ≠ 46 := fun e => by subst e; exact absurd h (by decide)
def decVal (acc : Nat) (l : List UInt8) : Nat := l.foldl (fun a c => a * 10 + (c.toNat - 48)) acc
theorem decVal_cons (acc : Nat) (c : UInt8) (r : List UInt8) : decVal acc (c :: r) = decVal (acc * 10 + (c.toNat - 48)) r := List.foldl_cons ..
theorem decVal_nil (acc : Nat) : decVal acc [] = acc := List.foldl_nil ..
theorem isD_val {c : UInt8} (h : isD c = true) : 48 ≤ c.toNat ∧ c.toNat ≤ 57 := by
  unfold isD at h
  simpa using h
theorem parse_digits (M : Nat) (hM : M = 18446744073709551615) : ∀ (l : List UInt8) (acc : Nat), (∀ b ∈ l, isD b = true) → l.length ≤ 19 → acc < 10 ^ (19 - l.length) → Lib.parseUintM M acc l = .ok (decVal acc l) ∧ decVal acc l < 10 ^ 19 := by
  intro l
  induction l with
  | nil => intro acc _ _ ha; rw [decVal_nil]; exact ⟨rfl, ha⟩
  | cons c r ih =>
    intro acc h hl ha
    have hc := isD_val (h c (by simp))
    rw [List.length_cons] at hl ha
    have h18 : 10 ^ (19 - (r.length + 1)) ≤ 10 ^ 18 := Nat.pow_le_pow_right (by decide) (by omega)
    have hp : 10 ^ (19 - r.length) = 10 ^ (19 - (r.length + 1)) * 10 := by rw [← Nat.pow_succ]; congr 1; omega
    have hstep : acc * 10 + (c.toNat - 48) < 10 ^ (19 - r.length) := by
      rw [hp]
      generalize 10 ^ (19 - (r.length + 1)) = P at *
      omega
    have key := ih (acc * 10 + (c.toNat - 48)) (fun b hb => h b (by simp [hb])) (by omega) hstep
    have h1 : ¬ 1844674407370955162 ≤ acc := by
      have e18 : (10 : Nat) ^ 18 = 1000000000000000000 := by decide
      omega
    have h2 : ¬ M < acc * 10 + (c.toNat - 48) := by
      have e18 : (10 : Nat) ^ 18 = 1000000000000000000 := by decide
      omega
    have hu : Lib.parseUintM M acc (c :: r) = Lib.parseUintM M (acc * 10 + (c.toNat - 48)) r := by
      conv => lhs; unfold Lib.parseUintM
      rw [if_pos hc, if_neg h1, if_neg h2]
    rw [hu, decVal_cons]
    exact key
theorem parse_ok (l : List UInt8) (h0 : l ≠ []) (h : ∀ b ∈ l, isD b = true) (hl : l.length ≤ 19) : Lib.parseUintB 64 l = .ok (decVal 0 l) ∧ decVal 0 l < 10 ^ 19 := by
  have := parse_digits (2 ^ 64 - 1) (by decide) l 0 h hl (Nat.pow_pos (by decide))
  unfold Lib.parseUintB
  rw [if_neg h0]
  exact this
theorem sfx_rev (text s : ByteArray) : sfxB text s = s.data.toList.reverse.isPrefixOf text.data.toList.reverse := rfl
theorem unit_of (text : ByteArray) (Q S : List UInt8) (c : UInt8) (i : Nat) (hi : i < 12) (hc : isD c = true) (hS : (unitsL[i]'hi).f0.data.toList = S) (ht : text.data.toList = Q ++ c :: S) : unitIx text = i := by
  have hr : text.data.toList.reverse = S.reverse ++ c :: Q.reverse := by rw [ht]; simp
  have hne : ∀ x : UInt8, isD x = false → (x == c) = false := fun x hx => beq_eq_false_iff_ne.2 (fun e => by rw [e, hc] at hx; cases hx)
  have n105 := hne 105 (by decide)
  have n107 := hne 107 (by decide)
  have n77 := hne 77 (by decide)
  have n71 := hne 71 (by decide)
  have n84 := hne 84 (by decide)
  have n80 := hne 80 (by decide)
  have n109 := hne 109 (by decide)
  refine unitIx_eq text i hi ?_ (fun j hj hji => ?_)
  · rw [sfx_rev, hr, hS, List.isPrefixOf_iff_prefix]
    exact List.prefix_append _ _
  · rw [sfx_rev, hr, ← hS]
    obtain rfl | rfl | rfl | rfl | rfl | rfl | rfl | rfl | rfl | rfl | rfl | rfl : i = 0 ∨ i = 1 ∨ i = 2 ∨ i = 3 ∨ i = 4 ∨ i = 5 ∨ i = 6 ∨ i = 7 ∨ i = 8 ∨ i = 9 ∨ i = 10 ∨ i = 11 := by omega
    all_goals
      obtain rfl | rfl | rfl | rfl | rfl | rfl | rfl | rfl | rfl | rfl | rfl : j = 0 ∨ j = 1 ∨ j = 2 ∨ j = 3 ∨ j = 4 ∨ j = 5 ∨ j = 6 ∨ j = 7 ∨ j = 8 ∨ j = 9 ∨ j = 10 := by omega
      all_goals first
        | (exfalso; omega)
        | simp [unitsL, List.isPrefixOf, n105, n107, n77, n71, n84, n80, n109]
theorem num_of (text : ByteArray) (P S : List UInt8) (s : ByteArray) (hs : s.data.toList = S) (ht : text.data.toList = P ++ S) : numOf text s = ⟨P.toArray⟩ := by
  unfold numOf Lib.trimSuffix
  have h : Lib.hasSuffix text.data.toList s.data.toList = true := by
    unfold Lib.hasSuffix
    rw [ht, hs, List.isSuffixOf_iff_suffix]
    exact List.suffix_append _ _
  rw [h, if_pos rfl, ht, hs, List.length_append, Nat.add_sub_cancel, List.take_left' rfl]
def numL (W D : List UInt8) (dot : Bool) : List UInt8 := if dot = true then W ++ 46 :: D else W
structure IsNum (W D : List UInt8) (dot : Bool) : Prop where
  w0 : W ≠ []
  wd : ∀ b ∈ W, isD b = true
  d0 : dot = true → D ≠ []
  dd : ∀ b ∈ D, isD b = true
  dn : dot = false → D = []
theorem num_cut {W D : List UInt8} {dot : Bool} (h : IsNum W D dot) : Lib.cut (numL W D dot) dotSep.data.toList = (W, D, dot) := by
  unfold numL
  cases dot with
  | true => rw [if_pos rfl, cut_dot D (fun b hb => digit_no_dot (h.wd b hb))]
  | false => rw [if_neg Bool.false_ne_true, cut_no (fun b hb => digit_no_dot (h.wd b hb)), h.dn rfl]
theorem num_last {W D : List UInt8} {dot : Bool} (h : IsNum W D dot) : ∃ Q c, numL W D dot = Q ++ [c] ∧ isD c = true := by
  unfold numL
  cases dot with
  | true =>
    rw [if_pos rfl]
    refine ⟨W ++ 46 :: D.dropLast, D.getLast (h.d0 rfl), ?_, h.dd _ (List.getLast_mem _)⟩
    rw [List.append_assoc, List.cons_append, List.dropLast_concat_getLast]
  | false =>
    rw [if_neg Bool.false_ne_true]
    exact ⟨W.dropLast, W.getLast h.w0, (List.dropLast_concat_getLast _).symm, h.wd _ (List.getLast_mem _)⟩
theorem unit_num (text : ByteArray) (W D S : List UInt8) (dot : Bool) (h : IsNum W D dot) (i : Nat) (hi : i < 12) (hS : (unitsL[i]'hi).f0.data.toList = S) (ht : text.data.toList = numL W D dot ++ S) : unitIx text = i := by
  obtain ⟨Q, c, hq, hc⟩ := num_last h
  refine unit_of text Q S c i hi hc hS ?_
  rw [ht, hq]; simp
theorem worth_lt (i : Nat) (hi : i < 12) : ∃ w : Nat, (unitsL[i]'hi).f1 = (w : Int) ∧ 0 < w ∧ w < 18446744073709551616 ∧ w = ((unitsL[i]'hi).f1).toNat := by
  have h : ∀ j : Fin 12, 0 < (unitsL[j.1]'j.2).f1 ∧ (unitsL[j.1]'j.2).f1 < 18446744073709551616 := by decide
  have := h ⟨i, hi⟩
  exact ⟨((unitsL[i]'hi).f1).toNat, by simp only at this; omega, by simp only at this; omega, by simp only at this; omega, rfl⟩
def parseAt (k : Nat) (text s : ByteArray) (wv : Int) : Option (Int × Int) :=
  if text.size < 4294967281 ∧ (numOf text s).size ≤ text.size ∧ (wholeB (numOf text s)).size ≤ text.size ∧ (partB (numOf text s)).size ≤ text.size then
    (if goodB (numOf text s) = true then
      (match Lib.parseUintB 64 (wholeB (numOf text s) ++ partB (numOf text s)).data.toList with
        | .ok u => if u < 18446744073709551616 then quant_over.f k ((u : Int) * wv / 18446744073709551616) ((u : Int) * wv % 18446744073709551616) ((10 ^ (partB (numOf text s)).size : Nat) : Int) else none
        | _ => none)
    else some (0, 30)) else none
theorem parse_is (k : Nat) (text : ByteArray) : quant_Parse.f k text = parseAt k text (unitsL[unitIx text]'(unitIx_lt text)).f0 (unitsL[unitIx text]'(unitIx_lt text)).f1 := rfl
theorem unit_is (text : ByteArray) (i : Nat) (hi : i < 12) (h : unitIx text = i) : unitsL[unitIx text]'(unitIx_lt text) = unitsL[i]'hi := by
  have : ∀ j (hj : j < 12), j = i → unitsL[j]'hj = unitsL[i]'hi := by rintro j hj rfl; rfl
  exact this _ _ h
theorem parse_fwd (text : ByteArray) (W D S : List UInt8) (dot : Bool) (h : IsNum W D dot) (i : Nat) (hi : i < 12) (hS : (unitsL[i]'hi).f0.data.toList = S) (ht : text.data.toList = numL W D dot ++ S) (hl : W.length + D.length ≤ 19) (hsz : text.size < 4294967281) :
    Ev (fun k => quant_Parse.f k text) (ceilP (decVal 0 (W ++ D) * ((unitsL[i]'hi).f1).toNat) (10 ^ D.length)) := by
  obtain ⟨wn, hw, hw0, hw64, hwn⟩ := worth_lt i hi
  have hix := unit_num text W D S dot h i hi hS ht
  have hu := unit_is text i hi hix
  have hn := num_of text (numL W D dot) S (unitsL[i]'hi).f0 hS ht
  have hW : wholeB ⟨(numL W D dot).toArray⟩ = ⟨W.toArray⟩ := by unfold wholeB; rw [List.toList_toArray, num_cut h]
  have hD : partB ⟨(numL W D dot).toArray⟩ = ⟨D.toArray⟩ := by unfold partB; rw [List.toList_toArray, num_cut h]
  have hdt : dotB ⟨(numL W D dot).toArray⟩ = dot := by unfold dotB; rw [List.toList_toArray, num_cut h]
  have hts : text.size = (numL W D dot).length + S.length := by rw [Lib.size_eq, ht, List.length_append]
  have hnl : W.length + D.length ≤ (numL W D dot).length := by
    unfold numL
    cases hd : dot with
    | true => rw [if_pos rfl, List.length_append, List.length_cons]; omega
    | false => rw [if_neg Bool.false_ne_true, h.dn hd]; simp
  have hg : goodB ⟨(numL W D dot).toArray⟩ = true := by
    unfold goodB
    rw [hW, hD, hdt, allD_true h.w0 h.wd]
    have e : decide ((⟨W.toArray⟩ : ByteArray).size + (⟨D.toArray⟩ : ByteArray).size ≤ 19) = true := decide_eq_true (by rw [Lib.size_eq, Lib.size_eq]; simpa using hl)
    rw [e]
    cases hd : dot with
    | true => rw [allD_true (h.d0 hd) h.dd]; rfl
    | false => rfl
  have hcat : ((⟨W.toArray⟩ : ByteArray) ++ (⟨D.toArray⟩ : ByteArray)).data.toList = W ++ D := by simp [ByteArray.data_append]
  have hpo := parse_ok (W ++ D) (by simp [h.w0]) (fun b hb => by rcases List.mem_append.1 hb with hb | hb; exact h.wd b hb; exact h.dd b hb) (by simpa using hl)
  have hu64 : decVal 0 (W ++ D) < 18446744073709551616 := by have := hpo.2; omega
  have hpw : (10 : Nat) ^ D.length ≤ 10 ^ 19 := Nat.pow_le_pow_right (by decide) (by omega)
  have hpw0 : 0 < (10 : Nat) ^ D.length := Nat.pow_pos (by decide)
  have hprod : decVal 0 (W ++ D) * wn < 18446744073709551616 * 18446744073709551616 := Nat.lt_of_le_of_lt (Nat.mul_le_mul_left _ (Nat.le_of_lt hw64)) (Nat.mul_lt_mul_of_pos_right hu64 (by decide))
  have hov := over_ev (decVal 0 (W ++ D) * wn / 18446744073709551616) (decVal 0 (W ++ D) * wn % 18446744073709551616) (10 ^ D.length) hpw0 (by omega) (by rw [Nat.div_lt_iff_lt_mul (by decide)]; exact hprod) (Nat.mod_lt _ (by decide))
  rw [Nat.div_add_mod' , hwn] at hov
  refine Ev.congr (fun k => ?_) hov
  rw [parse_is, hu]
  unfold parseAt
  rw [hn, hW, hD, hcat, hpo.1]
  have hsD : (⟨D.toArray⟩ : ByteArray).size = D.length := by rw [Lib.size_eq]
  have hsW : (⟨W.toArray⟩ : ByteArray).size = W.length := by rw [Lib.size_eq]
  have hsN : (⟨(numL W D dot).toArray⟩ : ByteArray).size = (numL W D dot).length := by rw [Lib.size_eq]
  rw [hsD, hsW, hsN, if_pos ⟨hsz, by omega, by omega, by omega⟩, if_pos hg]
  dsimp only
  rw [if_pos hu64, ← hwn, hw, ← Int.natCast_mul]
  rfl
end Go.Proofs.YtejgbdclhlolkaaGreatDoor.Q
namespace Go.Proofs.YtejgbdclhlolkaaGreatDoor.Q
open Go.RowKit Go.Proofs.YtejgbdclhlolkaaGreatDoorW.PrintWords Go.Proofs.YtejgbdclhlolkaaGreatDoorW.PrintLast
set_option linter.unusedVariables false
set_option linter.unusedSimpArgs false
def nd (n : Nat) : Nat := (Lib.decDigits n).length
theorem dec_small {n : Nat} (h : n < 10) : Lib.decDigits n = [UInt8.ofNat (48 + n)] := by rw [Lib.decDigits, dif_pos h]
theorem dec_big {n : Nat} (h : 10 ≤ n) : Lib.decDigits n = Lib.decDigits (n / 10) ++ [UInt8.ofNat (48 + n % 10)] := by rw [Lib.decDigits, dif_neg (by omega)]
theorem nd_small {n : Nat} (h : n < 10) : nd n = 1 := by unfold nd; rw [dec_small h]; rfl
theorem nd_big {n : Nat} (h : 10 ≤ n) : nd n = nd (n / 10) + 1 := by unfold nd; rw [dec_big h]; simp
theorem nd_pos (n : Nat) : 1 ≤ nd n := by
  by_cases h : n < 10
  · rw [nd_small h]; exact Nat.le_refl _
  · rw [nd_big (by omega)]; omega
theorem nd_le : ∀ (k n : Nat), 1 ≤ k → n < 10 ^ k → nd n ≤ k := by
  intro k
  induction k with
  | zero => intro n h; omega
  | succ k ih =>
    intro n _ h
    by_cases h1 : n < 10
    · rw [nd_small h1]; omega
    · rw [nd_big (by omega)]
      by_cases hk : k = 0
      · subst hk; simp at h; omega
      · have := ih (n / 10) (by omega) (by rw [Nat.pow_succ] at h; omega)
        omega
theorem dg_byte {d : Nat} (h : d < 10) : isD (UInt8.ofNat (48 + d)) = true ∧ (UInt8.ofNat (48 + d)).toNat - 48 = d := by
  have : ∀ d : Fin 10, isD (UInt8.ofNat (48 + d.1)) = true ∧ (UInt8.ofNat (48 + d.1)).toNat - 48 = d.1 := by decide
  exact this ⟨d, h⟩
theorem dec_digits (n : Nat) : ∀ b ∈ Lib.decDigits n, isD b = true := by
  induction n using Nat.strongRecOn with
  | _ n ih =>
    by_cases h : n < 10
    · rw [dec_small h]
      intro b hb
      rw [List.mem_singleton.1 hb]
      exact (dg_byte h).1
    · rw [dec_big (by omega)]
      intro b hb
      rcases List.mem_append.1 hb with hb | hb
      · exact ih (n / 10) (by omega) b hb
      · rw [List.mem_singleton.1 hb]
        exact (dg_byte (by omega)).1
theorem dec_ne (n : Nat) : Lib.decDigits n ≠ [] := fun h => by have := nd_pos n; unfold nd at this; rw [h] at this; simp at this
theorem decVal_app (l r : List UInt8) : ∀ acc, decVal acc (l ++ r) = decVal (decVal acc l) r := by
  induction l with
  | nil => intro acc; rfl
  | cons c l ih => intro acc; rw [List.cons_append, decVal_cons, decVal_cons]; exact ih _
theorem decVal_dec (n : Nat) : decVal 0 (Lib.decDigits n) = n := by
  induction n using Nat.strongRecOn with
  | _ n ih =>
    by_cases h : n < 10
    · rw [dec_small h]
      rw [decVal_cons, decVal_nil]
      rw [(dg_byte h).2]; omega
    · rw [dec_big (by omega), decVal_app, ih (n / 10) (by omega)]
      rw [decVal_cons, decVal_nil]
      rw [(dg_byte (by omega)).2]; omega
theorem numeral_list (n : Nat) : (numeral n).data.toList = Lib.decDigits n := by simp [numeral]
theorem numeral_size (n : Nat) : (numeral n).size = nd n := by rw [Lib.size_eq, numeral_list]; rfl
def sufB (i : Nat) : ByteArray := (unitsL.getD i ⟨⟨#[]⟩, 0⟩).f0
def wN (i : Nat) : Nat := (unitsL.getD i ⟨⟨#[]⟩, 0⟩).f1.toNat
end Go.Proofs.YtejgbdclhlolkaaGreatDoor.Q
namespace Go.Proofs.YtejgbdclhlolkaaGreatDoor.Q
open Go.RowKit Go.Proofs.YtejgbdclhlolkaaGreatDoorW.PrintWords Go.Proofs.YtejgbdclhlolkaaGreatDoorW.PrintLast
set_option linter.unusedVariables false
set_option linter.unusedSimpArgs false
theorem wN_get (i : Nat) (hi : i < 12) : ((unitsL[i]'hi).f1).toNat = wN i := by
  unfold wN
  rw [List.getD_eq_getElem?_getD, List.getElem?_eq_getElem (show i < unitsL.length from hi)]
  rfl
theorem sufB_get (i : Nat) (hi : i < 12) : (unitsL[i]'hi).f0 = sufB i := by
  unfold sufB
  rw [List.getD_eq_getElem?_getD, List.getElem?_eq_getElem (show i < unitsL.length from hi)]
  rfl
theorem sufB_le (i : Nat) (hi : i < 12) : (sufB i).size ≤ 2 := by
  have h : ∀ j : Fin 12, (sufB j.1).size ≤ 2 := by decide
  exact h ⟨i, hi⟩
end Go.Proofs.YtejgbdclhlolkaaGreatDoor.Q
namespace Go.Proofs.YtejgbdclhlolkaaGreatDoor.Pure
open Go.RowKit Go.Proofs.YtejgbdclhlolkaaGreatDoorW.PrintWords Go.Proofs.YtejgbdclhlolkaaGreatDoorW.PrintLast Go.Proofs.YtejgbdclhlolkaaGreatDoor.Q
set_option linter.unusedVariables false
set_option linter.unusedSimpArgs false
theorem tmodn (a b : Nat) : Int.tmod (a : Int) (b : Int) = ((a % b : Nat) : Int) := by rw [Int.tmod_eq_emod_of_nonneg (by omega), ← Int.natCast_emod]
def namesF : List ByteArray := [(⟨#[]⟩ : ByteArray), (⟨#[107]⟩ : ByteArray), (⟨#[77]⟩ : ByteArray), (⟨#[71]⟩ : ByteArray), (⟨#[84]⟩ : ByteArray), (⟨#[80]⟩ : ByteArray), (⟨#[75, 105]⟩ : ByteArray), (⟨#[77, 105]⟩ : ByteArray), (⟨#[71, 105]⟩ : ByteArray), (⟨#[84, 105]⟩ : ByteArray), (⟨#[80, 105]⟩ : ByteArray)]
def facF : List Int := [1, 1000, 1000000, 1000000000, 1000000000000, 1000000000000000, 1024, 1048576, 1073741824, 1099511627776, 1125899906842624]
theorem factors_is : bursarlaw03_factors.f = some (namesF, facF) := rfl
def unitOf (i : Nat) : Nat := [11, 5, 6, 7, 8, 9, 0, 1, 2, 3, 4].getD i 0
theorem fac_unit (i : Nat) (hi : i < 11) : unitOf i < 12 ∧ unitOf i ≠ 10 ∧ (∃ F : Nat, rd facF (i : Int) = (F : Int) ∧ 0 < F ∧ wN (unitOf i) = 1000 * F) ∧ rdOf ByteArray.empty namesF (i : Int) = sufB (unitOf i) := by
  obtain rfl | rfl | rfl | rfl | rfl | rfl | rfl | rfl | rfl | rfl | rfl : i = 0 ∨ i = 1 ∨ i = 2 ∨ i = 3 ∨ i = 4 ∨ i = 5 ∨ i = 6 ∨ i = 7 ∨ i = 8 ∨ i = 9 ∨ i = 10 := by omega
  · exact ⟨by decide, by decide, ⟨1, rfl, by decide, rfl⟩, rfl⟩
  · exact ⟨by decide, by decide, ⟨1000, rfl, by decide, rfl⟩, rfl⟩
  · exact ⟨by decide, by decide, ⟨1000000, rfl, by decide, rfl⟩, rfl⟩
  · exact ⟨by decide, by decide, ⟨1000000000, rfl, by decide, rfl⟩, rfl⟩
  · exact ⟨by decide, by decide, ⟨1000000000000, rfl, by decide, rfl⟩, rfl⟩
  · exact ⟨by decide, by decide, ⟨1000000000000000, rfl, by decide, rfl⟩, rfl⟩
  · exact ⟨by decide, by decide, ⟨1024, rfl, by decide, rfl⟩, rfl⟩
  · exact ⟨by decide, by decide, ⟨1048576, rfl, by decide, rfl⟩, rfl⟩
  · exact ⟨by decide, by decide, ⟨1073741824, rfl, by decide, rfl⟩, rfl⟩
  · exact ⟨by decide, by decide, ⟨1099511627776, rfl, by decide, rfl⟩, rfl⟩
  · exact ⟨by decide, by decide, ⟨1125899906842624, rfl, by decide, rfl⟩, rfl⟩
theorem fac_len : facF.length = 11 := rfl
theorem nam_len : namesF.length = 11 := rfl
end Go.Proofs.YtejgbdclhlolkaaGreatDoor.Pure
namespace Go.Proofs.YtejgbdclhlolkaaGreatDoor.Pure
open Go.RowKit Go.Proofs.YtejgbdclhlolkaaGreatDoorW.PrintWords Go.Proofs.YtejgbdclhlolkaaGreatDoorW.PrintLast Go.Proofs.YtejgbdclhlolkaaGreatDoorW.PrintMore Go.Proofs.YtejgbdclhlolkaaGreatDoor.Q
set_option linter.unusedVariables false
set_option linter.unusedSimpArgs false
theorem decVal_acc (l : List UInt8) : ∀ acc : Nat, decVal acc l = acc * 10 ^ l.length + decVal 0 l := by
  induction l with
  | nil => intro acc; rw [decVal_nil, decVal_nil, List.length_nil, Nat.pow_zero, Nat.mul_one]; rfl
  | cons c r ih =>
    intro acc
    rw [decVal_cons, decVal_cons, ih (acc * 10 + (c.toNat - 48)), ih (0 * 10 + (c.toNat - 48)), List.length_cons, Nat.pow_succ]
    generalize c.toNat - 48 = x
    generalize 10 ^ r.length = P
    rw [Nat.add_mul, Nat.zero_mul, Nat.zero_add, Nat.mul_assoc acc 10 P, Nat.mul_comm 10 P]
    omega
theorem dec_front : ∀ (d part : Nat), part < 10 ^ d → ∃ D, Lib.decDigits (10 ^ d + part) = 49 :: D ∧ D.length = d
  | 0, part, h => by
    obtain rfl : part = 0 := by simpa using h
    exact ⟨[], by rw [dec_small (by decide)]; rfl, rfl⟩
  | d + 1, part, h => by
    have hp : 10 ^ (d + 1) = 10 * 10 ^ d := by rw [Nat.pow_succ, Nat.mul_comm]
    have hpos : 0 < 10 ^ d := Nat.pow_pos (by decide)
    obtain ⟨D, hD, hl⟩ := dec_front d (part / 10) (by rw [hp] at h; omega)
    refine ⟨D ++ [UInt8.ofNat (48 + part % 10)], ?_, by simp [hl]⟩
    rw [hp, dec_big (by omega), show (10 * 10 ^ d + part) / 10 = 10 ^ d + part / 10 by omega, hD, show (10 * 10 ^ d + part) % 10 = part % 10 by omega]
    rfl
theorem fmtUint (n : Nat) (h : n < 18446744073709551616) : strconv_FormatUint.f (n : Int) 10 = some (numeral n) := by
  unfold strconv_FormatUint.f
  rw [if_pos ⟨by omega, by omega, rfl⟩, Int.toNat_natCast]
theorem inu32 {a : Int} (h : (Lit.int .u32 a).wf = true) : 0 ≤ a ∧ a ≤ 4294967295 := by
  simp only [Lit.wf, IntKind.min, IntKind.max, IntKind.signed, IntKind.bits, Bool.and_eq_true, decide_eq_true_eq, if_true, if_false, Bool.false_eq_true] at h
  omega
theorem mul64_m (x y : Nat) (hx : x < 18446744073709551616) (hy : y < 18446744073709551616) : bits_Mul64.f (x : Int) (y : Int) = some (((x * y / 18446744073709551616 : Nat) : Int), ((x * y % 18446744073709551616 : Nat) : Int)) := by
  unfold bits_Mul64.f
  rw [if_pos ⟨by omega, by omega, by omega, by omega⟩, ← Int.natCast_mul]
  rfl
def judge (N ten : Nat) (v e : Int) (k : Nat) : Option Bool :=
  if ((N / 18446744073709551616 : Nat) : Int) ≥ (ten : Int) then (if e = 7 then (some (v == 0)) else (some false)) else ((bits_Div64.f k ((N / 18446744073709551616 : Nat) : Int) ((N % 18446744073709551616 : Nat) : Int) (ten : Int)).bind fun bt261 => (if bt261.2 > 0 then (if (IntKind.u64.wrap (bt261.1 + 1)) > 9223372036854775807 then (if e = 7 then (some (v == 0)) else (some false)) else (if (IntKind.u64.wrap (bt261.1 + 1)) = 0 then (if e = 7 then (some (v == 0)) else (some false)) else (if e = 0 then (some (v == (wrap64 (IntKind.u64.wrap (bt261.1 + 1))))) else (some false)))) else (if bt261.1 > 9223372036854775807 then (if e = 7 then (some (v == 0)) else (some false)) else (if bt261.1 = 0 then (if e = 0 then (some (v == (wrap64 (bt261.1)))) else (some false)) else (if e = 0 then (some (v == (wrap64 (bt261.1)))) else (some false))))))
theorem judge_ev (N ten : Nat) (ht : 0 < ten) (ht64 : ten < 18446744073709551616) (hN : N < 18446744073709551616 * 18446744073709551616) : Ev (judge N ten (ceilP N ten).1 (ceilP N ten).2) true := by
  obtain ⟨H, hH⟩ : ∃ H, H = N / 18446744073709551616 := ⟨_, rfl⟩
  obtain ⟨L, hL⟩ : ∃ L, L = N % 18446744073709551616 := ⟨_, rfl⟩
  have hHL : H * 18446744073709551616 + L = N := by rw [hH, hL]; exact Nat.div_add_mod' _ _
  have hL64 : L < 18446744073709551616 := by rw [hL]; exact Nat.mod_lt _ (by decide)
  by_cases hge : ten ≤ H
  · have hbig : ¬ (N + ten - 1) / ten ≤ 9223372036854775807 := by
      have : 18446744073709551616 ≤ (N + ten - 1) / ten := by
        rw [Nat.le_div_iff_mul_le ht]
        have : 18446744073709551616 * ten ≤ 18446744073709551616 * H := Nat.mul_le_mul_left _ hge
        omega
      omega
    refine Ev.congr (f := fun _ => some true) (fun k => ?_) (Ev.now _)
    unfold judge ceilP
    rw [if_neg hbig, ← hH, if_pos (by omega), if_pos rfl]
    rfl
  · have hdv := div_ev H L ten ht ht64 (by omega) hL64
    rw [hHL] at hdv
    have hc := ceil_eq N ten ht
    have hq64 : N / ten < 18446744073709551616 := by
      rw [Nat.div_lt_iff_lt_mul ht, ← hHL]
      have : 18446744073709551616 * (H + 1) ≤ 18446744073709551616 * ten := Nat.mul_le_mul_left _ (by omega)
      omega
    unfold ceilP
    rw [hc]
    obtain ⟨q, hq⟩ : ∃ q, q = N / ten := ⟨_, rfl⟩
    obtain ⟨r, hr⟩ : ∃ r, r = N % ten := ⟨_, rfl⟩
    rw [← hq] at hdv hq64 ⊢
    rw [← hr] at hdv ⊢
    refine Ev.congr (fun k => by unfold judge; rw [← hH, ← hL, if_neg (show ¬ ((H : Int) ≥ (ten : Int)) by omega)]) (Ev.bind hdv (Ev.congr (f := fun _ => some true) (fun k => ?_) (Ev.now _)))
    dsimp only
    by_cases h0 : 0 < r
    · rw [if_pos (show (r : Int) > 0 by omega), if_pos h0]
      by_cases hz : q + 1 = 18446744073709551616
      · rw [show (q : Int) + 1 = 18446744073709551616 by omega, show IntKind.u64.wrap 18446744073709551616 = 0 by rw [u64w]; rfl, if_neg (by omega), if_pos rfl, if_neg (show ¬ q + 1 ≤ 9223372036854775807 by omega)]
        rfl
      · rw [u64i (x := (q : Int) + 1) (by omega) (by omega)]
        by_cases hb : q + 1 ≤ 9223372036854775807
        · rw [if_neg (show ¬ ((q : Int) + 1 > 9223372036854775807) by omega), if_neg (show ¬ ((q : Int) + 1 = 0) by omega), if_pos hb]
          dsimp only
          rw [if_pos rfl, w64i (i := (q : Int) + 1) (by omega) (by omega), show (((q + 1 : Nat) : Int) == (q : Int) + 1) = true from beq_iff_eq.2 (by omega)]
        · rw [if_pos (show ((q : Int) + 1 > 9223372036854775807) by omega), if_neg hb]
          rfl
    · rw [if_neg (show ¬ ((r : Int) > 0) by omega), if_neg h0]
      by_cases hb : q ≤ 9223372036854775807
      · rw [if_neg (show ¬ ((q : Int) > 9223372036854775807) by omega), if_pos hb]
        dsimp only
        rw [if_pos rfl, w64i (i := (q : Int)) (by omega) (by omega), show ((q : Int) == (q : Int)) = true from beq_iff_eq.2 rfl]
        split <;> rfl
      · rw [if_pos (show ((q : Int) > 9223372036854775807) by omega), if_neg hb]
        rfl
theorem fac_le (i : Nat) (hi : i < 11) : ∃ F : Nat, rd facF (i : Int) = (F : Int) ∧ 0 < F ∧ wN (unitOf i) = 1000 * F ∧ F ≤ 1125899906842624 := by
  obtain ⟨_, _, ⟨F, hF, h0, hw⟩, _⟩ := fac_unit i hi
  have h : ∀ j : Fin 12, wN j.1 ≤ 1125899906842624000 := by decide
  have := h ⟨unitOf i, (fac_unit i hi).1⟩
  simp only at this
  exact ⟨F, hF, h0, hw, by omega⟩
theorem judge_is (X F ten : Nat) (v e : Int) (k : Nat) (hX : X < 9223372036854775808) (hF : F ≤ 1125899906842624) :
    ((bits_Mul64.f (X : Int) (F : Int)).bind fun bt257 => (if bt257.1 ≥ 9007199254740992 then (some false) else ((bits_Mul64.f bt257.2 1000).bind fun bt259 => (if (IntKind.u64.wrap (bt259.1 + (IntKind.u64.wrap (bt257.1 * 1000)))) ≥ (ten : Int) then (if e = 7 then (some (v == 0)) else (some false)) else ((bits_Div64.f k (IntKind.u64.wrap (bt259.1 + (IntKind.u64.wrap (bt257.1 * 1000)))) bt259.2 (ten : Int)).bind fun bt261 => (if bt261.2 > 0 then (if (IntKind.u64.wrap (bt261.1 + 1)) > 9223372036854775807 then (if e = 7 then (some (v == 0)) else (some false)) else (if (IntKind.u64.wrap (bt261.1 + 1)) = 0 then (if e = 7 then (some (v == 0)) else (some false)) else (if e = 0 then (some (v == (wrap64 (IntKind.u64.wrap (bt261.1 + 1))))) else (some false)))) else (if bt261.1 > 9223372036854775807 then (if e = 7 then (some (v == 0)) else (some false)) else (if bt261.1 = 0 then (if e = 0 then (some (v == (wrap64 (bt261.1)))) else (some false)) else (if e = 0 then (some (v == (wrap64 (bt261.1)))) else (some false)))))))))) = judge (X * (1000 * F)) ten v e k := by
  have hP : X * F < 9223372036854775808 * 1125899906842625 := Nat.lt_of_le_of_lt (Nat.mul_le_mul_left _ (show F ≤ 1125899906842625 by omega)) (Nat.mul_lt_mul_of_pos_right hX (by decide))
  have e1 : X * (1000 * F) = X * F * 1000 := by rw [Nat.mul_comm 1000 F, Nat.mul_assoc]
  rw [e1, mul64_m X F (by omega) (by omega)]
  generalize X * F = P at *
  have hmod : P % 18446744073709551616 < 18446744073709551616 := Nat.mod_lt _ (by decide)
  have hlow : bits_Mul64.f ((P % 18446744073709551616 : Nat) : Int) 1000 = some (((P % 18446744073709551616 * 1000 / 18446744073709551616 : Nat) : Int), ((P % 18446744073709551616 * 1000 % 18446744073709551616 : Nat) : Int)) := mul64_m (P % 18446744073709551616) 1000 hmod (by decide)
  rw [Option.bind_some]
  dsimp only
  rw [if_neg (show ¬ (((P / 18446744073709551616 : Nat) : Int) ≥ 9007199254740992) by omega), hlow, Option.bind_some]
  dsimp only
  have eh : IntKind.u64.wrap (((P % 18446744073709551616 * 1000 / 18446744073709551616 : Nat) : Int) + IntKind.u64.wrap (((P / 18446744073709551616 : Nat) : Int) * 1000)) = ((P * 1000 / 18446744073709551616 : Nat) : Int) := by
    rw [u64i (x := ((P / 18446744073709551616 : Nat) : Int) * 1000) (by omega) (by omega), u64i (by omega) (by omega)]
    omega
  have el : P % 18446744073709551616 * 1000 % 18446744073709551616 = P * 1000 % 18446744073709551616 := by omega
  rw [eh, el]
  rfl
theorem mean_l0 (n fr d i : Nat) (hn : n ≤ 4294967295) (hfr : fr ≤ 4294967295) (hd1 : 1 ≤ d) (hd9 : d ≤ 9) (hi : i < 11) :
    ∀ (m j : Nat), j + m = d → Ev (fun k => bursarlaw03_QuantMeans.l0 k (n : Int) (fr : Int) namesF facF (i : Int) (d : Int) ((10 ^ j : Nat) : Int) (j : Int)) true := by
  intro m
  induction m with
  | succ m ih =>
    intro j hj
    have hp : (10 : Nat) ^ j ≤ 10 ^ 9 := Nat.pow_le_pow_right (by decide) (by omega)
    have hs : (10 : Nat) ^ (j + 1) = 10 ^ j * 10 := Nat.pow_succ ..
    have key := ih (j + 1) (by omega)
    rw [hs] at key
    generalize (10 : Nat) ^ j = P at *
    refine Ev.step (fun k => ?_) key
    simp only [bursarlaw03_QuantMeans.l0]
    rw [if_pos (by omega), u64i (x := (P : Int) * 10) (by omega) (by omega), w64i (i := (j : Int) + 1) (by omega) (by omega)]
    rfl
  | zero =>
    intro j hj
    obtain rfl : j = d := by omega
    have hp : (10 : Nat) ^ j ≤ 10 ^ 9 := Nat.pow_le_pow_right (by decide) (by omega)
    have hp0 : 0 < (10 : Nat) ^ j := Nat.pow_pos (by decide)
    obtain ⟨D, hD, hDl⟩ := dec_front j (fr % 10 ^ j) (Nat.mod_lt _ hp0)
    obtain ⟨hj12, _, _, hnm⟩ := fac_unit i hi
    obtain ⟨F, hF, hF0, hw, hFle⟩ := fac_le i hi
    have hsu := sufB_le (unitOf i) hj12
    obtain ⟨part, hpart⟩ : ∃ part, part = fr % 10 ^ j := ⟨_, rfl⟩
    have hplt : part < 10 ^ j := by rw [hpart]; exact Nat.mod_lt _ hp0
    rw [← hpart] at hD
    have hDd : ∀ b ∈ D, isD b = true := fun b hb => dec_digits (10 ^ j + part) b (by rw [hD]; simp [hb])
    have hnum : IsNum (Lib.decDigits n) D true := ⟨dec_ne n, dec_digits n, fun _ => (by intro e; rw [e] at hDl; simp at hDl; omega), hDd, fun h => (by cases h)⟩
    have hv1 : decVal 0 D = part := by
      have h1 := decVal_dec (10 ^ j + part)
      rw [hD, decVal_cons, decVal_acc, hDl] at h1
      have : (0 * 10 + ((49 : UInt8).toNat - 48)) * 10 ^ j = 10 ^ j := by
        show 1 * 10 ^ j = 10 ^ j
        rw [Nat.one_mul]
      omega
    have hval : decVal 0 (Lib.decDigits n ++ D) = n * 10 ^ j + part := by rw [decVal_app, decVal_dec, decVal_acc, hDl, hv1]
    have hn10 := nd_le 10 n (by decide) (by omega)
    obtain ⟨T, hT⟩ : ∃ T : ByteArray, T = (((numeral n ++ (⟨#[46]⟩ : ByteArray)) ++ (numeral (10 ^ j + part)).extract 1 (numeral (10 ^ j + part)).size) ++ sufB (unitOf i)) := ⟨_, rfl⟩
    have hTl : T.data.toList = numL (Lib.decDigits n) D true ++ (sufB (unitOf i)).data.toList := by
      rw [hT]
      simp only [ByteArray.data_append, Array.toList_append]
      rw [Lib.extract_to_end, numeral_list, numeral_list, hD]
      unfold numL
      rw [if_pos rfl]
      simp
    have hTs : T.size = nd n + 1 + j + (sufB (unitOf i)).size := by
      rw [Lib.size_eq, hTl]
      unfold numL nd
      rw [if_pos rfl, List.length_append, List.length_append, List.length_cons, hDl, ← Lib.size_eq]
      omega
    have hsz1 : (numeral (10 ^ j + part)).size = j + 1 := by rw [Lib.size_eq, numeral_list, hD, List.length_cons, hDl]
    have hpf := parse_fwd T _ D (sufB (unitOf i)).data.toList true hnum (unitOf i) hj12 (by rw [sufB_get _ hj12]) hTl (by rw [hDl]; show nd n + j ≤ 19; omega) (by rw [hTs]; omega)
    rw [hval, wN_get _ hj12, hw, hDl] at hpf
    have hX : n * 10 ^ j ≤ n * 10 ^ 9 := Nat.mul_le_mul_left _ hp
    have hje := judge_ev ((n * 10 ^ j + part) * (1000 * F)) (10 ^ j) hp0 (by omega) (Nat.lt_of_le_of_lt (Nat.mul_le_mul (show n * 10 ^ j + part ≤ 18446744073709551615 by omega) (show 1000 * F ≤ 18446744073709551616 by omega)) (by decide))
    have hmn : Int.tmod (fr : Int) ((10 ^ j : Nat) : Int) = (part : Int) := by rw [tmodn, hpart]
    have hmod : part ≤ fr := by rw [hpart]; exact Nat.mod_le _ _
    refine Ev.step (fun k => ?_) (Ev.bind (f := fun k (bt : Int × Int) => judge ((n * 10 ^ j + part) * (1000 * F)) (10 ^ j) bt.1 bt.2 k) hpf hje)
    have hext : ((numeral n ++ (⟨#[46]⟩ : ByteArray)) ++ (numeral (10 ^ j + part)).extract 1 (numeral (10 ^ j + part)).size).size = nd n + 1 + j := by
      rw [ByteArray.size_append, ByteArray.size_append, ByteArray.size_extract, numeral_size, hsz1]
      show nd n + 1 + (min (j + 1) (j + 1) - 1) = nd n + 1 + j
      omega
    have hex2 : (numeral n ++ (⟨#[46]⟩ : ByteArray)).size = nd n + 1 := by rw [ByteArray.size_append, numeral_size]; rfl
    have hex3 : ((numeral (10 ^ j + part)).extract 1 (numeral (10 ^ j + part)).size).size = j := by rw [ByteArray.size_extract, hsz1]; omega
    have hjf := fun v e => judge_is (n * 10 ^ j + part) F (10 ^ j) v e k (by omega) hFle
    simp only [bursarlaw03_QuantMeans.l0]
    rw [if_neg (by omega), if_neg (by omega), u64n (n := fr) (by omega), u64n (n := n) (by omega), hmn, ← Int.natCast_add, u64n (n := 10 ^ j + part) (by omega), fmtUint _ (by omega), Option.bind_some, hsz1, if_pos (by omega), fmtUint n (by omega), Option.bind_some, numeral_size]
    rw [if_pos (by omega), ← hsz1, hex2, hex3, if_pos (by omega), if_pos (by omega), nam_len, if_pos (by omega), hnm, hext, if_pos (by omega), ← hT]
    congr 1
    funext bt
    rw [fac_len, if_pos (by omega), hF, ← Int.natCast_mul, u64n (n := n * 10 ^ j) (by omega), ← Int.natCast_add, u64n (n := n * 10 ^ j + part) (by omega), u64n (n := F) (by omega)]
    exact hjf bt.1 bt.2
theorem QuantMeans (a b c e : Int) (ha : (Lit.int .u32 a).wf = true) (hb : (Lit.int .u32 b).wf = true) (hc : (Lit.int .i64 c).wf = true) (he : (Lit.int .i64 e).wf = true) : ∃ k, bursarlaw03_QuantMeans.f k a b c e = some true := by
  have h1 := inu32 ha
  have h2 := inu32 hb
  obtain ⟨n, rfl⟩ : ∃ n : Nat, a = n := ⟨a.toNat, by omega⟩
  obtain ⟨fr, rfl⟩ : ∃ fr : Nat, b = fr := ⟨b.toNat, by omega⟩
  refine Ev.rounds ?_
  refine Ev.bind known_ev (Ev.congr (fun k => if_pos rfl) ?_)
  rw [factors_is]
  refine Ev.congr (fun k => Option.bind_some _ _) ?_
  obtain ⟨ue, hue⟩ : ∃ ue : Nat, IntKind.u64.wrap e = (ue : Int) := ⟨(IntKind.u64.wrap e).toNat, by rw [u64w]; omega⟩
  obtain ⟨uc, huc⟩ : ∃ uc : Nat, IntKind.u64.wrap c = (uc : Int) := ⟨(IntKind.u64.wrap c).toNat, by rw [u64w]; omega⟩
  have h11 : IntKind.u64.wrap (facF.length : Int) = ((11 : Nat) : Int) := by rw [fac_len]; exact u64n (by decide)
  have key := mean_l0 n fr (uc % 9 + 1) (ue % 11) (by omega) (by omega) (by omega) (by omega) (by omega) (uc % 9 + 1) 0 (by omega)
  refine Ev.congr (fun k => ?_) key
  dsimp only
  rw [hue, huc, h11, if_neg (by omega), tmodn, show Int.tmod (uc : Int) 9 = ((uc % 9 : Nat) : Int) from tmodn uc 9, w64i (i := ((ue % 11 : Nat) : Int)) (by omega) (by omega), w64i (i := ((uc % 9 : Nat) : Int)) (by omega) (by omega), w64i (by omega) (by omega)]
  rfl
end Go.Proofs.YtejgbdclhlolkaaGreatDoor.Pure
namespace Go.Proofs.YtejgbdclhlolkaaGreatDoor.Q
open Go.RowKit Go.Lib Go.ChangeShapes Go.Proofs.YtejgbdclhlolkaaGreatDoorW.PrintWords Go.Proofs.YtejgbdclhlolkaaGreatDoorW.PrintLast
set_option linter.unusedVariables false
set_option linter.unusedSimpArgs false
theorem laid_one {P : Program} {w : World} {l : List (String × DataW Unit)} {n : String} {d : DataW Unit} (h : laidMetH P l w) (hl : (l.filter fun x => x.1 == n) = [(n, d)]) (hd : d.handleName? = none) : laidMet P [(n, d)] w := by
  have h1 := h.filter (fun x => x.1 == n)
  rw [hl] at h1
  have h2 := (laidMetH_iff.1 h1).1
  have e : ([(n, d)] : List (String × DataW Unit)).filter (fun x => x.2.handleName?.isNone) = [(n, d)] := by simp [List.filter_cons, hd]
  rw [e] at h2
  exact h2
theorem struct_si {H : Type} {enc : TypeId × Value → H} {P : Program} {w : World} {base : Nat} {sp : Nat → Bool} {held : Bool} {fuel : Nat} {t : TypeId} {f0 f1 : Field} {k : IntKind} {cs : List Value} {l : List UInt8} {v : Int} {p : List MemPlace}
    (ht : P.underlying t = some (.struct #[f0, f1])) (h0 : P.underlying f0.type = some .string) (h1 : P.underlying f1.type = some (.int k)) (o0 : f0.offset = 0) (o1 : f1.offset = 1) (c0 : P.cellsOf f0.type = 1) (c1 : P.cellsOf f1.type = 1) (c : P.cellsOf t = 2)
    (h : DataW.trod enc P w base sp held fuel t cs = some (.agg [.lit (.string l), .lit (.int k v)], p)) : cs = [.string ⟨l.toArray⟩, .int k v] := by
  obtain ⟨y0, y1, n, hx, hl, e0, e1⟩ := trod_struct2 ht h
  rw [o0, c0] at e0
  rw [o1, c1] at e1
  rw [c] at hl
  injection hx with hx _
  injection hx with hx
  injection hx with hx0 hx
  injection hx with hx1 _
  match cs, hl with
  | [a, b], _ =>
    simp only [List.drop_zero, List.take_succ_cons, List.take_zero, List.drop_succ_cons] at e0 e1
    obtain ⟨s, hs, rfl, _⟩ := DataW.trod_string h0 e0
    obtain ⟨z, hz, rfl, _⟩ := DataW.trod_int h1 e1
    injection hs with hs _
    injection hz with hz _
    subst hs hz
    simp only [DataW.lit.injEq, Lit.string.injEq, Lit.int.injEq, true_and] at hx0 hx1
    subst hx0 hx1
    rfl
theorem arr_at {H : Type} {enc : TypeId × Value → H} {P : Program} {w : World} {base : Nat} {sp : Nat → Bool} {held : Bool} {fuel : Nat} {t e : TypeId} {n : Nat} {cs : List Value} {ds : List (DataW H)} {p : List MemPlace}
    (ht : P.underlying t = some (.array n e)) (h : DataW.trod enc P w base sp held fuel t cs = some (.agg ds, p)) (i : Nat) (hi : i < n) : ∃ f d q, ds[i]? = some d ∧ DataW.trod enc P w base sp held f e ((cs.drop (i * P.cellsOf e)).take (P.cellsOf e)) = some (d, q) := by
  cases fuel with
  | zero => simp [DataW.trod] at h
  | succ fuel =>
    simp only [DataW.trod, ht] at h
    split at h
    · obtain ⟨xs, hm, hx⟩ := Option.map_eq_some_iff.1 h
      injection hx with hx _
      injection hx with hx
      obtain ⟨b, hb, hf⟩ := mapM_at hm i i (by simp [hi])
      exact ⟨fuel, b.1, b.2, by rw [← hx]; simp [hb], hf⟩
    · cases h
theorem units_laid {w : World} (h : laidMet Tryz.prog [("bursar/quant.units", Rows.laid_bursar_quant_units)] w) : ∀ j x, unitCells[j]? = some x → w.cell? ⟨1, j, none⟩ = some x := by
  obtain ⟨ps, ⟨g', t', cs, fuel, p, q, hg', ht', hvar, hd, _, _⟩, _⟩ := h
  obtain rfl : g' = 1 := Option.some.inj (hg'.symm.trans (by kernel_rfl))
  obtain rfl : t' = 67 := Option.some.inj (ht'.symm.trans (by kernel_rfl))
  intro j x hx
  rw [World.var?_cell hg' hvar j]
  have hj : j < 24 := (List.getElem?_eq_some_iff.1 hx).1
  obtain ⟨f, d, q', hd1, hd2⟩ := arr_at Tryz.underlying67 hd (j / 2) (by omega)
  rw [show Tryz.prog.cellsOf 66 = 2 by kernel_rfl] at hd2
  have key : ∀ (l : List UInt8) (v : Int), d = .agg [.lit (.string l), .lit (.int .u64 v)] → ((cs.toList.drop (j / 2 * 2)).take 2) = [.string ⟨l.toArray⟩, .int .u64 v] := fun l v e => by
    subst e
    exact struct_si Tryz.underlying66 Tryz.underlying9 Tryz.underlying36 rfl rfl (by kernel_rfl) (by kernel_rfl) (by kernel_rfl) hd2
  have get : ∀ (a b : Value), ((cs.toList.drop (j / 2 * 2)).take 2) = [a, b] → cs[j]? = if j % 2 = 0 then some a else some b := fun a b e => by
    have e1 : ((cs.toList.drop (j / 2 * 2)).take 2)[j % 2]? = [a, b][j % 2]? := by rw [e]
    rw [List.getElem?_take_of_lt (by omega), List.getElem?_drop, show j / 2 * 2 + j % 2 = j by omega, Array.getElem?_toList] at e1
    rw [e1]
    obtain h | h : j % 2 = 0 ∨ j % 2 = 1 := by omega
    · rw [h]; rfl
    · rw [h]; rfl
  obtain rfl | rfl | rfl | rfl | rfl | rfl | rfl | rfl | rfl | rfl | rfl | rfl | rfl | rfl | rfl | rfl | rfl | rfl | rfl | rfl | rfl | rfl | rfl | rfl : j = 0 ∨ j = 1 ∨ j = 2 ∨ j = 3 ∨ j = 4 ∨ j = 5 ∨ j = 6 ∨ j = 7 ∨ j = 8 ∨ j = 9 ∨ j = 10 ∨ j = 11 ∨ j = 12 ∨ j = 13 ∨ j = 14 ∨ j = 15 ∨ j = 16 ∨ j = 17 ∨ j = 18 ∨ j = 19 ∨ j = 20 ∨ j = 21 ∨ j = 22 ∨ j = 23 := by omega
  all_goals
    rw [get _ _ (key _ _ (Option.some.inj hd1).symm)]
    exact hx
theorem tab_laid {w : World} (h : laidMet Tryz.prog [("internal/strconv.uint64pow10", Rows.laid_internal_strconv_uint64pow10)] w) : Lib.TabIs Tryz.prog w "internal/strconv.uint64pow10" .u64 Lib.pow10Tab :=
  Lib.tabIs_of_head (g := 4) (t := 130) (e := 36) (n := 20) (by kernel_rfl) (by kernel_rfl) Tryz.underlying130 Tryz.underlying36 (by kernel_rfl) (by kernel_rfl) h
theorem glob_of {W : World} (hsh : W.ShapedOpen Tryz.prog) (h : laidMetH Tryz.prog Rows.quantSumsRow.laid W) : Glob W :=
  ⟨Tryz.laysM146.s1_3 W hsh, tab_laid (laid_one h rfl rfl), units_laid (laid_one h rfl rfl)⟩
end Go.Proofs.YtejgbdclhlolkaaGreatDoor.Q
namespace Go.Proofs.YtejgbdclhlolkaaGreatDoor.quantMeans
open Go.ChangeShapes Go.WideShapes Go.ChangeAt Go.RowKit
open Go.ChangeMaps (open_string shut_string)
set_option linter.unusedVariables false
set_option linter.unusedSimpArgs false
theorem own : ownKnob Tryz.prog.godebug = none := by kernel_rfl
set_option maxRecDepth 100000 in
theorem contract (H : Type) (enc : TypeId × Value → H) (W : World) (base : Nat) (args : Array Value) (ds gs : List (DataW H)) (before : List MemPlace)
    (hval0 : ∀ (j : Nat) t v, Tryz.f7.params[j]? = some t → args[j]? = some v → Value.okWide Tryz.prog W .any base t v)
    (hW : DataW.Whole enc Tryz.prog Tryz.f7.params.toList Rows.quantMeansSpec.vars false W args.toList ds gs before)
    (hsz0 : (DataW.weightsEach Tryz.prog (Tryz.f7.params.toList ++ (OpenSpec.ofChange Rows.quantMeansSpec).bare.plain.varTypes Tryz.prog) (ds ++ gs)).all (· ≤ reachBytes) = true)
    (hsh : W.ShapedOpen Tryz.prog)
    (hl : laidMetH Tryz.prog Rows.quantMeansRow.laid W)
    : Calls Tryz.prog 7 args W fun e W' => ∃ v, e = .returned v ∧ Rows.quantMeansSpec.post enc Tryz.prog Tryz.f7 false true false false W args v W' := by
  have hsz : (DataW.weightsEach Tryz.prog (Tryz.f7.params.toList ++ Rows.quantMeansSpec.plain.varTypes Tryz.prog) (ds ++ gs)).all (· ≤ reachBytes) = true := hsz0
  have hval : ∀ (j : Nat) t v, Tryz.f7.params[j]? = some t → args[j]? = some v → Value.okWide Tryz.prog W .any base t v := hval0
  have hW' := hW
  obtain ⟨p, q, hA0, hV, rfl, hfz, hnd⟩ := hW
  have hA : DataW.TrodAll enc Tryz.prog W 0 (fun _ => true) true Tryz.f7.params.toList args.toList ds p := hA0
  rw [Tryz.params7] at hA hval hsz
  obtain ⟨v0, vs0, d0, ds0, p0, q0, hargs, rfl, rfl, h0, r0⟩ := trodAll_cons hA
  obtain ⟨v1, vs1, d1, ds1, p1, q1, rfl, rfl, rfl, h1, r1⟩ := trodAll_cons r0
  obtain ⟨v2, vs2, d2, ds2, p2, q2, rfl, rfl, rfl, h2, r2⟩ := trodAll_cons r1
  obtain ⟨v3, vs3, d3, ds3, p3, q3, rfl, rfl, rfl, h3, r3⟩ := trodAll_cons r2
  obtain ⟨rfl, rfl, rfl⟩ := trodAll_nil r3
  obtain rfl : args = #[v0, v1, v2, v3] := by cases args; simp_all
  obtain ⟨rfl, rfl⟩ := trodVars_none hV
  obtain ⟨a0, rfl, rfl, rfl, w0⟩ := open_int Tryz.underlying34 (hval 0 34 v0 rfl rfl) h0
  obtain ⟨a1, rfl, rfl, rfl, w1⟩ := open_int Tryz.underlying34 (hval 1 34 v1 rfl rfl) h1
  obtain ⟨a2, rfl, rfl, rfl, w2⟩ := open_int Tryz.underlying3 (hval 2 3 v2 rfl rfl) h2
  obtain ⟨a3, rfl, rfl, rfl, w3⟩ := open_int Tryz.underlying3 (hval 3 3 v3 rfl rfl) h3
  obtain ⟨k, hp⟩ := Pure.QuantMeans a0 a1 a2 a3 w0 w1 w2 w3
  refine (Q.bursarlaw03_QuantMeans.calls k a0 a1 a2 a3 true W  hp (Q.glob_of hsh hl)).mono fun e W' ⟨he, bel⟩ => ?_
  subst he
  exact ⟨_, rfl, _, _, _, [], _, [], hW', trodAll_mk1 (shut_bool Tryz.underlying4 _), (trodAll_cons_mk (shut_int Tryz.underlying34 w0) (trodAll_cons_mk (shut_int Tryz.underlying34 w1) (trodAll_cons_mk (shut_int Tryz.underlying3 w2) (trodAll_cons_mk (shut_int Tryz.underlying3 w3) trodAll_mk0)))), rfl, bel.frame _, fun h => by cases h⟩
noncomputable def tab1 : Obj → Obj
  | .cells _ t frozen => .cells (Go.Pinned.utf8FirstZ.map fun (n : Nat) => Value.int .u8 (n : Int)).toArray t frozen
  | o => o
noncomputable def laidWorld (os : Os) : World :=
  { World.doorLaid Tryz.prog 94 os with heap := (World.doorLaid Tryz.prog 94 os).heap.modify 10 tab1 }
theorem laid_met (os : Os) : laidMet Tryz.prog Rows.quantMeansRow.laid ((laidWorld os).forCall (fun _ _ => 0) ⟨#[], #[.int .u32 0, .int .u32 0, .int .i64 0, .int .i64 0], []⟩).memory :=
  laidMet_of_run' 8 (by kernel_rfl) (by kernel_rfl)
theorem reads (os : Os) {H : Type} (enc : TypeId × Value → H) : ∃ places, DataW.whole enc Tryz.prog ((laidWorld os).forCall (fun _ _ => 0) ⟨#[], #[.int .u32 0, .int .u32 0, .int .i64 0, .int .i64 0], []⟩).memory Tryz.f7.params.toList Rows.quantMeansSpec.vars false (#[.int .u32 0, .int .u32 0, .int .i64 0, .int .i64 0] : Array Value).toList 8 = some ([.lit (.int .u32 0), .lit (.int .u32 0), .lit (.int .i64 0), .lit (.int .i64 0)], [], places) :=
  ⟨[], by kernel_rfl⟩
set_option maxRecDepth 100000 in
theorem lifted (os : Os) (started : os.Started) (H : Type) (enc : TypeId × Value → H) (F : Stop.Interp) :
    ReturnsInHanded {} Tryz.checked os 7 .any ((OpenSpec.ofChange Rows.quantMeansSpec).preRow enc Tryz.prog Tryz.f7 Rows.quantMeansRow.domain false Rows.quantMeansRow.laid) (((OpenSpec.ofChange Rows.quantMeansSpec).at F).post enc Tryz.prog Tryz.f7 false true false false) := by
  obtain ⟨places, hx⟩ := reads os enc
  refine returnsInHanded_of_row (C := Tryz.checked) (s := OpenSpec.ofChange Rows.quantMeansSpec) own started (by kernel_rfl) Tryz.func7
    (witness_row_at (enc := enc) (C := Tryz.checked) false (laidWorld os) #[.int .u32 0, .int .u32 0, .int .i64 0, .int .i64 0] rfl (by kernel_rfl) (by kernel_rfl) (by kernel_rfl)
      (OpenSpec.preRow_of_cond 8 hx (by kernel_rfl) (fun k hk => by cases hk) (by kernel_rfl) (laid_met os))) ?_
  intro W base args ds gs before hval hW _ hcond hsz hl hsh _
  exact contract H enc W base args ds gs before hval hW hsz hsh hl
theorem said : Rows.QuantMeansSaid :=
  OpenClaim.holds_of_cond 7 Tryz.f7 rfl rfl rfl rfl rfl rfl rfl ⟨rfl, rfl, rfl, rfl, rfl⟩ rfl rfl rfl rfl rfl (by kernel_rfl) Tryz.func7 (by kernel_rfl)
    (of_decide_eq_true (by kernel_rfl)) (by unfold Func.isWrapper; first | (rw [if_pos (by decide +kernel)]; kernel_rfl) | (rw [if_neg (by decide +kernel)]; exact ⟨rfl, rfl⟩))
    (fun os started H enc _ F => by rw [OpenClaim.pre_eq_preRow]; exact lifted os started H enc F)
theorem plain (f : FuncId) (fn : Func) (hf : Tryz.pinned.checked.prog.funcNamed "bursar/bursarlaw03.QuantMeans" = some f) (hfn : Tryz.pinned.checked.prog.funcs[f]? = some fn) :
    true = Tryz.pinned.checked.prog.looks [] ∧ ∀ (j : Nat) t, fn.params[j]? = some t → Tryz.pinned.checked.prog.wantsStandIn t = false := by
  obtain rfl : f = 7 := Option.some.inj ((show Tryz.prog.funcNamed "bursar/bursarlaw03.QuantMeans" = some 7 by kernel_rfl).symm.trans hf) |>.symm
  obtain rfl : fn = Tryz.f7 := (Option.some.inj (Tryz.func7.symm.trans hfn)).symm
  refine ⟨by kernel_rfl, fun j t ht => ?_⟩
  rw [Tryz.params7] at ht
  have hall : ∀ x ∈ [34, 34, 3, 3], Tryz.prog.wantsStandIn x = false := by
    intro x hx; simp only [List.mem_cons, List.mem_nil_iff, or_false] at hx; rcases hx with rfl | rfl | rfl | rfl <;> kernel_rfl
  exact hall t (by simpa using Array.mem_of_getElem? ht)
theorem card : Rows.QuantMeansCardSaid :=
  Claim7.holds_tied_plain_at .later [] _ _ _ _ said (fun _ h => by cases h) (by kernel_rfl) (fun _ h => by cases h) quantMeans_row_tie rfl ⟨rfl, rfl⟩ (by kernel_rfl) rfl plain (by kernel_rfl)
end Go.Proofs.YtejgbdclhlolkaaGreatDoor.quantMeans
namespace Go.Proofs.YtejgbdclhlolkaaGreatDoor
theorem quantMeans_holds : Rows.QuantMeansCardSaid := quantMeans.card
end Go.Proofs.YtejgbdclhlolkaaGreatDoor
