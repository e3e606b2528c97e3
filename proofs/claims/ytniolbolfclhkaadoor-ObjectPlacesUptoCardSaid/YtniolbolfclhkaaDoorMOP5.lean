/- What the statement ObjectPlacesUptoCardSaid rests on, part 5 of 7: walks and plain laws; what of the printer's words it leans on. -/
import Derived.Test.YtniolbolfclhkaaDoorMOP3
import Derived.Test.YtniolbolfclhkaaDoorMOP4
import Derived.Lib.Hide
namespace Go.Proofs.YtniolbolfclhkaaDoor.Q
open Go.RowKit Go.Proofs.YtniolbolfclhkaaDoorW.PrintWords Go.Proofs.YtniolbolfclhkaaDoorW.PrintLast Go.Proofs.YtniolbolfclhkaaDoorW.PrintMore Go.Proofs.YtniolbolfclhkaaDoor.Pl
set_option linter.unusedVariables false
set_option linter.unusedSimpArgs false
theorem app_labs (out : List Int) (ls : List Lab) (k : Nat) (h : k < ls.length) : out ++ (ls.take k).flatMap encLab ++ textL ls[k].f0 ++ textL ls[k].f1 = out ++ (ls.take (k + 1)).flatMap encLab := by
  rw [flat_snoc encLab ls k h]
  simp only [encLab, List.append_assoc]
theorem app_parts (out : List Int) (ps : List Prt) (k : Nat) (h : k < ps.length) : out ++ (ps.take k).flatMap encPart ++ textL ps[k].f0 ++ encAmts ps[k].f1 ++ encAmts ps[k].f2 = out ++ (ps.take (k + 1)).flatMap encPart := by
  rw [flat_snoc encPart ps k h]
  simp only [encPart, List.append_assoc]
set_option maxHeartbeats 16000000 in
set_option maxRecDepth 100000 in
theorem encode_ok (p n : ByteArray) (A2 : Option Addr) (c2 : Nat) (ls : List Lab) (pr d : Int) (A5 : Option Addr) (c5 : Nat) (ps : List Prt) (v : Int) (w : World) (HR1 : Kd.C k37 w A2 ls.length ls) (hc2 : ls.length ≤ c2) (HR2 : Kd.C k35 w A5 ps.length ps) (hc5 : ps.length ≤ c5) (hs : SmallP ps) (hG : Glob w) :
    Calls Tryd.prog 9 #[.agg #[.string p, .string n, .slice A2 ls.length c2, .int .i64 pr, .int .i64 d, .slice A5 ps.length c5, .int .i64 v]] w fun e w' => e = .returned (.tuple #[.string (encR p n ls pr d ps v).1, .int .i64 (encR p n ls pr d ps v).2]) ∧ Below w.heap.size w w' := by
  have hu25 := Tryd.underlying25
  have hu35 := Tryd.underlying35
  have hu37 := Tryd.underlying37
  have hal := (Below.refl w.heap.size w).alloc (Nat.le_refl _) (.cells #[.string p, .string n, .slice A2 ls.length c2, .int .i64 pr, .int .i64 d, .slice A5 ps.length c5, .int .i64 v] 25)
  have hnew := blk_new w (.cells #[.string p, .string n, .slice A2 ls.length c2, .int .i64 pr, .int .i64 d, .slice A5 ps.length c5, .int .i64 v] 25)
  have HB := Lib.hid hal
  have BO := Lib.hid hnew
  have GL := Lib.hid (Glob.below hG hal)
  have K1 := Lib.hid HR1
  have K2 := Lib.hid HR2
  have KF := Lib.hid (fun W (hb : Below w.heap.size w W) (hg : Glob W) => formed_ok p n A2 c2 ls pr d A5 c5 ps v W (Kd.C_below HR1 hb) hc2 (Kd.C_below HR2 hb) hc5 hg)
  have HS := Lib.hid hs
  have L2 := Lib.hid HR1.2.1
  have L5 := Lib.hid HR2.2.1
  clear hal hnew hG HR1 HR2 hc2 hc5 hs
  obtain ⟨bo, hbo⟩ : ∃ bo, bo = w.heap.size := ⟨_, rfl⟩
  by_cases hf : formB p n ls pr d ps v = true
  rotate_left
  · have hf : formB p n ls pr d ps v = false := by simpa using hf
    have hR : encR p n ls pr d ps v = (⟨#[]⟩, 130) := by unfold encR; rw [if_neg (by rw [hf]; decide)]
    rw [hR]
    have k_ := KF.out
    simp only [hf] at k_
    have KF := Lib.hid k_
    clear k_ hf hR
    go_enter Tryd.func9, Tryd.ntmps9
    go_upto_region 1 with fail
    generalize w.alloc _ = w1 at HB BO GL ⊢
    have c0_ := (blk_cell BO.out 0).trans rfl; have c1_ := (blk_cell BO.out 1).trans rfl; have c2_ := (blk_cell BO.out 2).trans rfl; have c3_ := (blk_cell BO.out 3).trans rfl; have c4_ := (blk_cell BO.out 4).trans rfl; have c5_ := (blk_cell BO.out 5).trans rfl; have c6_ := (blk_cell BO.out 6).trans rfl
    go_wp2_with (go_at_call 19; (with_reducible refine (KF.out _ HB.out GL.out).mono ?_); rintro e w2 ⟨rfl, hb⟩; have HB2 := Lib.hid (HB.out.trans (below_lower hb HB.out.size)); clear hb)
    go_ret2
    exact ⟨rfl, HB2.out⟩
  have hfit := ob_fit hf
  have hR : encR p n ls pr d ps v = (encS (encO p n ls pr d ps v), encE (encO p n ls pr d ps v)) := by unfold encR; rw [if_pos hf]
  rw [hR]
  have k_ := KF.out
  simp only [hf] at k_
  have KF := Lib.hid k_
  clear k_ hf hR
  have FIT := Lib.hid hfit
  have hp64 := hfit.path
  have hn32 := hfit.name
  have hl16 := hfit.labs.len
  have hp8 := hfit.len
  obtain ⟨dn, hdn⟩ := Int.eq_ofNat_of_zero_le hfit.dead.1
  obtain ⟨vn, hvn⟩ := Int.eq_ofNat_of_zero_le hfit.vers.1
  have hd60 := hfit.dead.2
  have hv60 := hfit.vers.2
  have hwp : IntKind.u8.wrap pr = pr := by rw [IntKind.wrap_u8]; have := hfit.prio; omega
  have hwd : IntKind.u64.wrap d = (dn : Int) := by rw [IntKind.wrap_u64, hdn]; omega
  have hwv : IntKind.u64.wrap v = (vn : Int) := by rw [IntKind.wrap_u64, hvn]; omega
  have HD := Lib.hid (show d.toNat = dn by omega)
  have HV := Lib.hid (show v.toNat = vn by omega)
  have hd64 : dn < 2 ^ 64 := by omega
  have hv64 : vn < 2 ^ 64 := by omega
  have HDL := Lib.hid (show headL 79 p n = headL 79 p n from rfl)
  have hHL := headL_len (v := 79) hp64 hn32
  have hLn := numL_10 (n := ls.length) (by omega)
  have hPn := numL_10 (n := ps.length) (by omega)
  have hDn := numL_10 hd64
  have hVn := numL_10 hv64
  have HLAB := Lib.hid (fun k => flat_take encLab 84 16 ls k (fun a ha => encLab_len (hfit.labs.each a ha)) hl16)
  have HPAR := Lib.hid (fun k => flat_take encPart 2238 8 ps k (fun a ha => encPart_len (hfit.each a ha) (HS.out a ha)) hp8)
  have HNUM := Lib.hid (And.intro hHL (And.intro hLn (And.intro hPn (And.intro hDn hVn))))
  have HL16 := Lib.hid hl16
  have HP8 := Lib.hid hp8
  have RL := Lib.hid (show (1048576 : Int) ≤ 1048576 from Int.le_refl _)
  have hl4 : ls.length ≤ 4096 := by omega
  have hp4 : ps.length ≤ 4096 := by omega
  have sp : p.size ≤ 4096 := by omega
  have sn : n.size ≤ 4096 := by omega
  clear hfit hdn hvn hd60 hv60 hHL hLn hPn hDn hVn hl16 hp8 hp64 hn32
  go_enter Tryd.func9, Tryd.ntmps9
  go_upto_region 1 with fail
  generalize w.alloc _ = w1 at HB BO GL ⊢
  have c0_ := (blk_cell BO.out 0).trans rfl; have c1_ := (blk_cell BO.out 1).trans rfl; have c2_ := (blk_cell BO.out 2).trans rfl; have c3_ := (blk_cell BO.out 3).trans rfl; have c4_ := (blk_cell BO.out 4).trans rfl; have c5_ := (blk_cell BO.out 5).trans rfl; have c6_ := (blk_cell BO.out 6).trans rfl
  obtain ⟨bo, hbo⟩ : ∃ bo, bo = w.heap.size := ⟨_, rfl⟩
  rw [← hbo] at c0_ c1_ c2_ c3_ c4_ c5_ c6_ BO ⊢
  have HBO := Lib.hid hbo
  clear hbo
  go_upto_region 3 with (go_at_call 19; (with_reducible refine (KF.out _ HB.out GL.out).mono ?_); rintro e w2 ⟨rfl, hb⟩; have HB2 := Lib.hid (HB.out.trans (below_lower hb HB.out.size)); have BO2 := Lib.hid (blk_below BO.out hb); have GL2 := Lib.hid (Glob.below GL.out hb); clear hb)
  clear c0_ c1_ c2_ c3_ c4_ c5_ c6_ HB BO GL KF
  have J1 := Lib.hid (Kd.C_below K1.out HB2.out)
  have J2 := Lib.hid (Kd.C_below K2.out HB2.out)
  have hL := GL2.out.letterO
  have c0_ := (blk_cell BO2.out 0).trans rfl; have c1_ := (blk_cell BO2.out 1).trans rfl
  have OLD := Lib.hid (blk_lt BO2.out)
  have R1 := Lib.hid (show (((headL 79 p n).length + (numL ls.length).length : Nat) : Int) ≤ 1048576 from outB (by obtain ⟨a1, a2, _⟩ := HNUM.out; omega))
  go_upto_region 5 with (first
    | (go_at_call 20; (with_reducible refine (begun_ok _ 79 p n sp sn).mono ?_); rintro e w3 ⟨g, rfl, h3, hb3⟩; have E3 := Aside0.mk (EnS.mk h3 hb3 ((hb3.block bo OLD.out).trans BO2.out) OLD.out); clear h3 hb3; have c2_ := (blk_cell E3.out.box 2).trans rfl)
    | (go_at_call 21; (with_reducible refine (count_ok _ w2.heap.size g 1048576 (headL 79 p n) ls.length hl4 E3.out.is RL.out R1.out).mono ?_); rintro e w4 ⟨rfl, h4⟩; have E4 := Aside0.mk (E3.out.to h4); clear h4; have c2_ := (blk_cell E4.out.box 2).trans rfl))
  clear c0_ c1_ hL E3 R1
  go_wp2
  clear c2_
  obtain ⟨o1, ho1⟩ : ∃ o1, o1 = headL 79 p n ++ numL ls.length := ⟨_, rfl⟩
  rw [← ho1] at E4
  have HO1 := Lib.hid (show o1.length ≤ 128 by rw [ho1, List.length_append]; obtain ⟨a1, a2, _⟩ := HNUM.out; omega)
  have HE1 := Lib.hid ho1
  clear ho1
  go_loopg [27] ls.length (fun gg v27 wr => ∃ k : Nat, v27 = .int .i64 (k : Int) ∧ Aside0 (k + gg = ls.length) ∧ Aside0 (EnS w2 g bo (.cells #[.string p, .string n, .slice A2 ls.length c2, .int .i64 pr, .int .i64 d, .slice A5 ps.length c5, .int .i64 v] 25 (0, 0)) (o1 ++ (ls.take k).flatMap encLab) wr))
  case atStart => exact ⟨0, rfl, ⟨by omega⟩, ⟨by simpa using E4.out⟩⟩
  case round =>
    clear E4
    obtain ⟨k, rfl, HK, ER⟩ := hrel
    have hkg := HK.out
    cases gk with
    | succ gg =>
      have b1 : decide ((k : Int) < (ls.length : Int)) = true := decide_eq_true (by omega)
      have b2 : decide (k < ls.length) = true := decide_eq_true (by omega)
      have hk1 : k < ls.length := by omega
      obtain ⟨ad, e1, x0, x1⟩ := at_T37 (Kd.C_below J1.out ER.out.below) (k : Int) (by omega) (by omega)
      cases e1
      rw [rd37_at ls k hk1, Int.toNat_natCast] at x0 x1
      have hsz := FIT.out.labs.each ls[k] (List.getElem_mem hk1)
      have HF := Lib.hid (app_labs o1 ls k hk1)
      generalize ls[k] = X at x0 x1 hsz HF
      have sx0 : X.f0.size < 2 ^ 63 := by omega
      have sx1 : X.f1.size < 2 ^ 63 := by omega
      have RA := Lib.hid (show (((o1 ++ (ls.take k).flatMap encLab).length + (textL X.f0).length : Nat) : Int) ≤ 1048576 from outB (by rw [List.length_append]; have h1 := HO1.out; have h2 := HLAB.out k; have h3 := textL_len (s := X.f0) (by omega); omega))
      have RB := Lib.hid (show (((o1 ++ (ls.take k).flatMap encLab ++ textL X.f0).length + (textL X.f1).length : Nat) : Int) ≤ 1048576 from outB (by simp only [List.length_append]; have h1 := HO1.out; have h2 := HLAB.out k; have h3 := textL_len (s := X.f0) (by omega); have h4 := textL_len (s := X.f1) (by omega); omega))
      have p2' : ((k : Int) < (ls.length : Int)) = True := eq_true (by omega)
      have hk63 : (k : Int) + 1 ≤ 9223372036854775807 := by have := HL16.out; omega
      clear hsz hkg
      go_upto_region 8 with fail
      have BP := Aside0.mk (blk_new wr (.cells #[.string X.f0, .string X.f1] 37))
      have hb := (Below.refl wr.heap.size wr).alloc (Nat.le_refl _) (.cells #[.string X.f0, .string X.f1] 37)
      have ER2 := Aside0.mk (ER.out.quiet hb)
      have HGN := Lib.hid ER.out.ne
      clear x0 x1 hb
      generalize wr.alloc _ = wq at ER2 BP ⊢
      have d0_ := (blk_cell BP.out 0).trans rfl
      go_wp2_with (first
        | (go_at_call 22; (with_reducible refine (text_ok _ w2.heap.size g 1048576 _ X.f0 sx0 ER2.out.is RL.out RA.out).mono ?_); rintro e w5 ⟨rfl, h5⟩; have BP5 := Aside0.mk (h5.kept.keep _ _ BP.out HGN.out (by intro c f h; cases h)); have E5 := Aside0.mk (ER2.out.to h5); have d1_ := (blk_cell BP5.out 1).trans rfl; clear h5)
        | (go_at_call 22; (with_reducible refine (text_ok _ w2.heap.size g 1048576 _ X.f1 sx1 E5.out.is RL.out RB.out).mono ?_); rintro e w6 ⟨rfl, h6⟩; have E6 := Aside0.mk (E5.out.to h6); clear h6))
      go_roundg gg
      case measure => omega
      case rel => exact ⟨k + 1, by go_num, ⟨by have := HK.out; omega⟩, ⟨by rw [← HF.out]; exact E6.out⟩⟩
    | zero =>
      have b1 : decide ((k : Int) < (ls.length : Int)) = false := decide_eq_false (by omega)
      have b2 : decide (k < ls.length) = false := decide_eq_false (by omega)
      have htk : ls.take k = ls := List.take_of_length_le (by omega)
      rw [htk] at ER
      have hll := HLAB.out ls.length
      rw [List.take_of_length_le (Nat.le_refl _)] at hll
      obtain ⟨o2, ho2⟩ : ∃ o2, o2 = o1 ++ ls.flatMap encLab := ⟨_, rfl⟩
      rw [← ho2] at ER
      have HO2 := Lib.hid (show o2.length ≤ 128 + 1344 by rw [ho2, List.length_append]; have := HO1.out; omega)
      have HE2 := Lib.hid ho2
      clear ho2 htk hll hkg
      have c3_ := (blk_cell ER.out.box 3).trans rfl
      have R2 := Lib.hid (show ((o2.length + 1 : Nat) : Int) ≤ 1048576 from outB (by have := HO2.out; omega))
      have R3 := Lib.hid (show (((o2 ++ [pr]).length + (numL dn).length : Nat) : Int) ≤ 1048576 from outB (by rw [List.length_append]; have := HO2.out; obtain ⟨_, _, _, a4, _⟩ := HNUM.out; simp only [List.length_cons, List.length_nil]; omega))
      have R4 := Lib.hid (show (((o2 ++ [pr] ++ numL dn).length + (numL ps.length).length : Nat) : Int) ≤ 1048576 from outB (by simp only [List.length_append]; have := HO2.out; obtain ⟨_, _, a3, a4, _⟩ := HNUM.out; simp only [List.length_cons, List.length_nil]; omega))
      go_upto_region 14 with (first
        | (go_at_call 23; (with_reducible refine (byte_ok _ w2.heap.size g 1048576 o2 pr ER.out.is RL.out R2.out).mono ?_); rintro e w7 ⟨rfl, h7⟩; have E7 := Aside0.mk (ER.out.to h7); clear h7; have c4_ := (blk_cell E7.out.box 4).trans rfl)
        | (go_at_call 24; (with_reducible refine (uint_ok _ w2.heap.size g 1048576 (o2 ++ [pr]) dn hd64 E7.out.is RL.out R3.out).mono ?_); rintro e w8 ⟨rfl, h8⟩; have E8 := Aside0.mk (E7.out.to h8); clear h8; have c5_ := (blk_cell E8.out.box 5).trans rfl)
        | (go_at_call 21; (with_reducible refine (count_ok _ w2.heap.size g 1048576 (o2 ++ [pr] ++ numL dn) ps.length hp4 E8.out.is RL.out R4.out).mono ?_); rintro e w9 ⟨rfl, h9⟩; have E9 := Aside0.mk (E8.out.to h9); clear h9; have e5_ := (blk_cell E9.out.box 5).trans rfl))
      clear c3_ c4_ c5_ ER E7 E8 R2 R3 R4
      go_wp2
      clear e5_
      obtain ⟨o3, ho3⟩ : ∃ o3, o3 = o2 ++ [pr] ++ numL dn ++ numL ps.length := ⟨_, rfl⟩
      rw [← ho3] at E9
      have HO3 := Lib.hid (show o3.length ≤ 1493 by rw [ho3]; simp only [List.length_append, List.length_cons, List.length_nil]; have := HO2.out; obtain ⟨_, _, a3, a4, _⟩ := HNUM.out; omega)
      have HE3 := Lib.hid ho3
      clear ho3
      go_loopg [58] ps.length (fun gg v58 wr => ∃ k : Nat, v58 = .int .i64 (k : Int) ∧ Aside0 (k + gg = ps.length) ∧ Aside0 (EnS w2 g bo (.cells #[.string p, .string n, .slice A2 ls.length c2, .int .i64 pr, .int .i64 d, .slice A5 ps.length c5, .int .i64 v] 25 (0, 0)) (o3 ++ (ps.take k).flatMap encPart) wr))
      case atStart => exact ⟨0, rfl, ⟨by omega⟩, ⟨by simpa using E9.out⟩⟩
      case round =>
        clear E9
        obtain ⟨j, rfl, HJ, ER⟩ := hrel
        have hjg := HJ.out
        cases gk with
        | succ gg =>
          have b1 : decide ((j : Int) < (ps.length : Int)) = true := decide_eq_true (by omega)
          have b2 : decide (j < ps.length) = true := decide_eq_true (by omega)
          have hj1 : j < ps.length := by omega
          obtain ⟨ad, A1, c1, A3, c3, e1, x0, x1, x2, m1, C1, m2, C2⟩ := at_T35 J2.out (j : Int) (by omega) (by omega)
          cases e1
          replace x0 := pw_cell_below ER.out.below x0
          replace x1 := pw_cell_below ER.out.below x1
          replace x2 := pw_cell_below ER.out.below x2
          rw [rd35_at ps j hj1, Int.toNat_natCast] at x0 x1 x2
          rw [rd35_at ps j hj1] at C1 C2
          have hsz := FIT.out.each ps[j] (List.getElem_mem hj1)
          have hsm := HS.out ps[j] (List.getElem_mem hj1)
          have HF := Lib.hid (app_parts o3 ps j hj1)
          clear m1 m2
          generalize ps[j] = X at x0 x1 x2 C1 C2 hsz hsm HF
          have sx0 : X.f0.size < 2 ^ 63 := by omega
          have G1 := Lib.hid (show ∀ a ∈ X.f1, a.f0.size ≤ 48 ∧ 0 ≤ a.f1 ∧ a.f1 < 9223372036854775808 from fun a ha => ⟨(hsz.2.1.each a ha).1, (hsz.2.1.each a ha).2, hsm.1 a ha⟩)
          have G2 := Lib.hid (show ∀ a ∈ X.f2, a.f0.size ≤ 48 ∧ 0 ≤ a.f1 ∧ a.f1 < 9223372036854775808 from fun a ha => ⟨(hsz.2.2.each a ha).1, (hsz.2.2.each a ha).2, hsm.2 a ha⟩)
          have g1l : X.f1.length ≤ 4096 := by have := hsz.2.1.len; omega
          have g2l : X.f2.length ≤ 4096 := by have := hsz.2.2.len; omega
          have RA := Lib.hid (show (((o3 ++ (ps.take j).flatMap encPart).length + (textL X.f0).length : Nat) : Int) ≤ 1048576 from outB (by rw [List.length_append]; have h1 := HO3.out; have h2 := HPAR.out j; have h3 := textL_len (s := X.f0) (by omega); omega))
          have RB := Lib.hid (show (o3 ++ (ps.take j).flatMap encPart ++ textL X.f0).length + 10 + 68 * X.f1.length ≤ 1048576 by simp only [List.length_append]; have h1 := HO3.out; have h2 := HPAR.out j; have h3 := textL_len (s := X.f0) (by omega); have h4 := hsz.2.1.len; omega)
          have RC := Lib.hid (show (o3 ++ (ps.take j).flatMap encPart ++ textL X.f0 ++ encAmts X.f1).length + 10 + 68 * X.f2.length ≤ 1048576 by simp only [List.length_append]; have h1 := HO3.out; have h2 := HPAR.out j; have h3 := textL_len (s := X.f0) (by omega); have h4 := hsz.2.2.len; have h5 := encAmts_len hsz.2.1 hsm.1; omega)
          have HC1 := Lib.hid C1
          have HC2 := Lib.hid C2
          have p2' : ((j : Int) < (ps.length : Int)) = True := eq_true (by omega)
          have hk63 : (j : Int) + 1 ≤ 9223372036854775807 := by have := HP8.out; omega
          clear hsz hsm hjg C1 C2
          go_upto_region 17 with fail
          have BP := Aside0.mk (blk_new wr (.cells #[.string X.f0, .slice A1 X.f1.length c1, .slice A3 X.f2.length c3] 35))
          have hb := (Below.refl wr.heap.size wr).alloc (Nat.le_refl _) (.cells #[.string X.f0, .slice A1 X.f1.length c1, .slice A3 X.f2.length c3] 35)
          have ER2 := Aside0.mk (ER.out.quiet hb)
          have HGN := Lib.hid ER.out.ne
          clear x0 x1 x2 hb
          generalize wr.alloc _ = wq at ER2 BP ⊢
          have d0_ := (blk_cell BP.out 0).trans rfl
          go_wp2_with (first
            | (go_at_call 22; (with_reducible refine (text_ok _ w2.heap.size g 1048576 _ X.f0 sx0 ER2.out.is RL.out RA.out).mono ?_); rintro e w10 ⟨rfl, h5⟩; have BP5 := Aside0.mk (h5.kept.keep _ _ BP.out HGN.out (by intro c f h; cases h)); have E5 := Aside0.mk (ER2.out.to h5); have d1_ := (blk_cell BP5.out 1).trans rfl; clear h5)
            | (go_at_call 25; (with_reducible refine (amts_lay w2 _ g _ A1 c1 X.f1 E5.out.is E5.out.below HC1.out g1l G1.out RB.out).mono ?_); rintro e w11 ⟨rfl, h6⟩; have BP6 := Aside0.mk (h6.kept.keep _ _ BP5.out HGN.out (by intro c f h; cases h)); have E6 := Aside0.mk (E5.out.to h6); have d2_ := (blk_cell BP6.out 2).trans rfl; clear h6)
            | (go_at_call 25; (with_reducible refine (amts_lay w2 _ g _ A3 c3 X.f2 E6.out.is E6.out.below HC2.out g2l G2.out RC.out).mono ?_); rintro e w12 ⟨rfl, h7⟩; have E7 := Aside0.mk (E6.out.to h7); clear h7))
          go_roundg gg
          case measure => omega
          case rel => exact ⟨j + 1, by go_num, ⟨by have := HJ.out; omega⟩, ⟨by rw [← HF.out]; exact E7.out⟩⟩
        | zero =>
          have b1 : decide ((j : Int) < (ps.length : Int)) = false := decide_eq_false (by omega)
          have b2 : decide (j < ps.length) = false := decide_eq_false (by omega)
          have htk : ps.take j = ps := List.take_of_length_le (by omega)
          rw [htk] at ER
          have hpp := HPAR.out ps.length
          rw [List.take_of_length_le (Nat.le_refl _)] at hpp
          obtain ⟨o4, ho4⟩ : ∃ o4, o4 = o3 ++ ps.flatMap encPart := ⟨_, rfl⟩
          rw [← ho4] at ER
          have HO4 := Lib.hid (show o4.length ≤ 1493 + 17904 by rw [ho4, List.length_append]; have := HO3.out; omega)
          have HE4 := Lib.hid ho4
          clear ho4 htk hpp hjg
          have e6_ := (blk_cell ER.out.box 6).trans rfl
          have R5 := Lib.hid (show ((o4.length + (numL vn).length : Nat) : Int) ≤ 1048576 from outB (by have := HO4.out; obtain ⟨_, _, _, _, a5⟩ := HNUM.out; omega))
          have R6 := Lib.hid (show (o4 ++ numL vn).length ≤ 1048576 by rw [List.length_append]; have := HO4.out; obtain ⟨_, _, _, _, a5⟩ := HNUM.out; omega)
          go_wp2_with (first
            | (go_at_call 24; (with_reducible refine (uint_ok _ w2.heap.size g 1048576 o4 vn hv64 ER.out.is RL.out R5.out).mono ?_); rintro e w13 ⟨rfl, h8⟩; have E8 := Aside0.mk (ER.out.to h8); clear h8)
            | (go_at_call 26; (with_reducible refine (done_ok _ w2.heap.size g 1048576 (o4 ++ numL vn) E8.out.is R6.out).mono ?_); rintro e w14 ⟨rfl, h9⟩; have B9 := Lib.hid h9; clear h9))
          go_ret2
          have hfin : encO p n ls pr d ps v = o4 ++ numL vn := by
            unfold encO encLabs encParts
            rw [HE4.out, HE3.out, HE2.out, HE1.out, HD.out, HV.out]
            simp only [List.append_assoc]
          refine ⟨by rw [hfin]; rfl, HB2.out.trans (below_lower (E8.out.below.trans (below_lower B9.out E8.out.below.size)) HB2.out.size)⟩
end Go.Proofs.YtniolbolfclhkaaDoor.Q
namespace Go.Proofs.YtniolbolfclhkaaDoor.Q
open Go.RowKit Go.Proofs.YtniolbolfclhkaaDoorW.PrintWords Go.Proofs.YtniolbolfclhkaaDoorW.PrintLast Go.Proofs.YtniolbolfclhkaaDoorW.PrintMore Go.Proofs.YtniolbolfclhkaaDoor.Pl
theorem object_EncodeObject.calls (p n : ByteArray) (A2 : Option Addr) (c2 : Nat) (ls : List Lab) (pr d : Int) (A5 : Option Addr) (c5 : Nat) (ps : List Prt) (v : Int) (r1 : ByteArray) (r2 : Int) (w : World) (HR1 : Kd.C k37 w A2 ls.length ls) (hc2 : ls.length ≤ c2) (HR2 : Kd.C k35 w A5 ps.length ps) (hc5 : ps.length ≤ c5) (h : object_EncodeObject.f p n ls pr d ps v = some (r1, r2)) (hG : Glob w) :
    Calls Tryd.prog 9 #[.agg #[.string p, .string n, .slice A2 ls.length c2, .int .i64 pr, .int .i64 d, .slice A5 ps.length c5, .int .i64 v]] w fun e w' => e = .returned (.tuple #[.string r1, .int .i64 r2]) ∧ Below w.heap.size w w' := by
  unfold object_EncodeObject.f at h
  split at h
  · rename_i hs
    have key := encode_ok p n A2 c2 ls pr d A5 c5 ps v w HR1 hc2 HR2 hc5 hs hG
    rw [Option.some.inj h] at key
    exact key
  · cases h
end Go.Proofs.YtniolbolfclhkaaDoor.Q
namespace Go.Proofs.YtniolbolfclhkaaDoor.Q
open Go.RowKit Go.Proofs.YtniolbolfclhkaaDoorW.PrintWords Go.Proofs.YtniolbolfclhkaaDoorW.PrintLast Go.Proofs.YtniolbolfclhkaaDoorW.PrintMore Go.Proofs.YtniolbolfclhkaaDoor.Pl
set_option linter.unusedVariables false
set_option linter.unusedSimpArgs false
def lettersB : ByteArray := ⟨#[110, 113, 108, 111, 98]⟩
def letB (kind : Nat) : ByteArray := lettersB.extract kind (kind + 1)
def keyL (kind : Nat) (p n : ByteArray) : List UInt8 := makeB [letB kind, p, n]
def okKey (kind : Int) (p n : ByteArray) : Bool := decide (0 ≤ kind ∧ kind ≤ 4) && (decide (pathS p = 0) && (if kind = 0 then decide (n = ⟨#[]⟩) else nameB n))
def keyE (kind : Int) (p n : ByteArray) : Int := if okKey kind p n = true then 0 else if 0 ≤ kind ∧ kind ≤ 4 then (if pathS p = 0 then 40 else 41) else 1
def keyS (kind : Int) (p n : ByteArray) : ByteArray := if okKey kind p n = true then ⟨(keyL kind.toNat p n).toArray⟩ else ⟨#[]⟩
def object_Key.f (kind : Int) (p n : ByteArray) : Option (ByteArray × Int) := some (keyS kind p n, keyE kind p n)
theorem nameB_zero {n : ByteArray} (h : nameB n = true) : (0 : UInt8) ∉ listB n := by
  unfold nameB at h
  simp only [Bool.and_eq_true] at h
  intro hm
  have := List.all_eq_true.1 h.2 0 hm
  revert this
  decide
theorem nameB_size' {s : ByteArray} (h : nameB s = true) : s.size ≤ 32 := (name_size h).2
theorem pathS_size' {s : ByteArray} (h : pathS s = 0) : s.size ≤ 64 := by
  rcases path_cases s with ⟨ns, hp, _⟩ | ⟨_, hb⟩
  · exact hp.size
  · unfold pathS at h
    rw [hb] at h
    cases h
theorem pathS_zero {p : ByteArray} (h : pathS p = 0) : (0 : UInt8) ∉ listB p := by
  rcases path_cases p with ⟨ns, hp, _⟩ | ⟨_, hb⟩
  · intro hm
    have hl : listB p = pathL ns := hp.list
    rw [hl] at hm
    unfold pathL at hm
    split at hm
    · revert hm; decide
    · unfold flat at hm
      rw [List.mem_flatten] at hm
      obtain ⟨x, hx, h0⟩ := hm
      obtain ⟨y, hy, rfl⟩ := List.mem_map.1 hx
      rcases List.mem_cons.1 h0 with e | e
      · cases e
      · have := List.all_eq_true.1 hp.names y hy
        have h2 := nameB_zero this
        exact h2 e
  · unfold pathS at h
    rw [hb] at h
    cases h
theorem makeB3 (a b c : ByteArray) (ha : (0 : UInt8) ∉ listB a) (hb : (0 : UInt8) ∉ listB b) (hc : (0 : UInt8) ∉ listB c) : makeB [a, b, c] = listB a ++ 0 :: 1 :: (listB b ++ 0 :: 1 :: (listB c ++ [0, 1])) := by
  unfold makeB
  simp only [List.map_cons, List.map_nil, makeK, esc_id ha, esc_id hb, esc_id hc]
theorem letB_zero {k : Nat} (h : k ≤ 4) : (0 : UInt8) ∉ listB (letB k) ∧ (listB (letB k)).length = 1 := by
  match k, h with
  | 0, _ => decide +kernel
  | 1, _ => decide +kernel
  | 2, _ => decide +kernel
  | 3, _ => decide +kernel
  | 4, _ => decide +kernel
theorem nameB_emp : nameB ⟨#[]⟩ = false := by decide +kernel
theorem listB_len (s : ByteArray) : (listB s).length = s.size := by unfold listB; rw [Array.length_toList]; rfl
theorem okKey_parts {kind : Int} {p n : ByteArray} (h : okKey kind p n = true) : (0 ≤ kind ∧ kind ≤ 4) ∧ pathS p = 0 ∧ (0 : UInt8) ∉ listB n ∧ n.size ≤ 32 := by
  unfold okKey at h
  simp only [Bool.and_eq_true, decide_eq_true_eq] at h
  refine ⟨h.1, h.2.1, ?_⟩
  have h3 := h.2.2
  split at h3
  · rw [of_decide_eq_true h3]; exact ⟨by decide, by decide⟩
  · exact ⟨nameB_zero h3, nameB_size' h3⟩
theorem keyL_len {kind : Nat} {p n : ByteArray} (hk : kind ≤ 4) (hp : pathS p = 0) (hn : (0 : UInt8) ∉ listB n) (hs : n.size ≤ 32) : (keyL kind p n).length ≤ 103 := by
  obtain ⟨h1, h2⟩ := letB_zero hk
  unfold keyL
  rw [makeB3 _ _ _ h1 (pathS_zero hp) hn]
  simp only [List.length_append, List.length_cons, List.length_nil, listB_len] at h2 ⊢
  have := pathS_size' hp
  omega
theorem make3_f {kind : Nat} {p n : ByteArray} (hk : kind ≤ 4) (hp : pathS p = 0) (hn : (0 : UInt8) ∉ listB n) (hs : n.size ≤ 32) : key_Make.f [letB kind, p, n] = some (⟨(keyL kind p n).toArray⟩, 0) := by
  obtain ⟨h1, h2⟩ := letB_zero hk
  have hlen := keyL_len hk hp hn hs
  rw [listB_len] at h2
  have hz : ∀ s ∈ [letB kind, p, n], (0 : UInt8) ∉ listB s ∧ s.size ≤ 4096 := by
    intro s hs'
    simp only [List.mem_cons, List.not_mem_nil, or_false] at hs'
    have := pathS_size' hp
    rcases hs' with rfl | rfl | rfl
    · exact ⟨h1, by omega⟩
    · exact ⟨pathS_zero hp, by omega⟩
    · exact ⟨hn, by omega⟩
  unfold key_Make.f
  rw [if_neg (by simp), if_pos hz]
  show (if (keyL kind p n).length ≤ 120 then _ else _) = _
  rw [if_pos (by omega)]
  rfl
theorem make3_ok {kind : Nat} {p n : ByteArray} (hk : kind ≤ 4) (hp : pathS p = 0) (hn : (0 : UInt8) ∉ listB n) (hs : n.size ≤ 32) (w : World) (g : Nat) (hb : w.heap[g]? = some (.cells #[.string (letB kind), .string p, .string n] 9 (0, 0))) (hG : Glob w) :
    Calls Tryd.prog 30 #[.slice (some ⟨g, 0, none⟩) 3 3] w fun e w' => e = .returned (.tuple #[.string ⟨(keyL kind p n).toArray⟩, .int .i64 0]) ∧ Below w.heap.size w w' := by
  have hC : Kd.C Kd.string w (some ⟨g, 0, none⟩) [letB kind, p, n].length [letB kind, p, n] := by
    refine Kd.C_of_reads (enc := Value.string) (d := ByteArray.empty) (h1 := fun _ => rfl) ⟨rfl, by simp, fun _ => ⟨_, rfl, fun j hj => ?_⟩⟩
    match j, hj with
    | 0, _ => exact (blk_cell hb 0).trans rfl
    | 1, _ => exact (blk_cell hb 1).trans rfl
    | 2, _ => exact (blk_cell hb 2).trans rfl
  exact key_Make.calls (some ⟨g, 0, none⟩) 3 [letB kind, p, n] _ _ w hC (by simp) (make3_f hk hp hn hs) hG
theorem cut_let {k : Nat} (h : k ≤ 4) (W : World) : (Instr.slice 9 (.string ⟨#[110, 113, 108, 111, 98]⟩) (some (.int .i64 (k : Int))) (some (.int .i64 ((k : Int) + 1))) none).run Tryd.prog W = .ok (.string (letB k)) W := by
  rcases (show k = 0 ∨ k = 1 ∨ k = 2 ∨ k = 3 ∨ k = 4 by omega) with rfl | rfl | rfl | rfl | rfl
  · kernel_rfl
  · kernel_rfl
  · kernel_rfl
  · kernel_rfl
  · kernel_rfl
set_option maxHeartbeats 8000000 in
set_option maxRecDepth 100000 in
theorem key_ok (kind : Int) (p n : ByteArray) (w : World) (hG : Glob w) :
    Calls Tryd.prog 11 #[.int .i64 kind, .string p, .string n] w fun e w' => e = .returned (.tuple #[.string (keyS kind p n), .int .i64 (keyE kind p n)]) ∧ Below w.heap.size w w' := by
  have KP := Lib.hid (path_ok p w hG)
  have KN := Lib.hid (name_ok n)
  have GL := Lib.hid hG
  clear hG
  by_cases h1 : kind < 0
  · have b1 : decide (kind < 0) = true := decide_eq_true h1
    have hb : okKey kind p n = false := by unfold okKey; rw [decide_eq_false (by omega), Bool.false_and]
    have e1 : keyS kind p n = ⟨#[]⟩ := by unfold keyS; rw [if_neg (by rw [hb]; decide)]
    have e2 : keyE kind p n = 1 := by unfold keyE; rw [if_neg (by rw [hb]; decide), if_neg (by omega)]
    rw [e1, e2]
    clear h1 hb e1 e2
    go_enter Tryd.func11, Tryd.ntmps11
    go_wp2
    go_ret2
    exact ⟨rfl, Below.refl _ _⟩
  have b1 : decide (kind < 0) = false := decide_eq_false h1
  by_cases h2 : 4 < kind
  · have b2 : decide (4 < kind) = true := decide_eq_true h2
    have hb : okKey kind p n = false := by unfold okKey; rw [decide_eq_false (by omega), Bool.false_and]
    have e1 : keyS kind p n = ⟨#[]⟩ := by unfold keyS; rw [if_neg (by rw [hb]; decide)]
    have e2 : keyE kind p n = 1 := by unfold keyE; rw [if_neg (by rw [hb]; decide), if_neg (by omega)]
    rw [e1, e2]
    clear h1 h2 hb e1 e2
    go_enter Tryd.func11, Tryd.ntmps11
    go_wp2
    go_ret2
    exact ⟨rfl, Below.refl _ _⟩
  have b2 : decide (4 < kind) = false := decide_eq_false h2
  obtain ⟨k, rfl⟩ := Int.eq_ofNat_of_zero_le (show 0 ≤ kind by omega)
  have hk4 : k ≤ 4 := by omega
  clear h1 h2
  by_cases h3 : pathS p = 0
  rotate_left
  · have t1 : (pathS p != 0) = true := by rw [bne_iff_ne]; exact h3
    have t2 : (pathS p == 0) = false := beq_eq_false_iff_ne.2 h3
    have hb : okKey (k : Int) p n = false := by unfold okKey; rw [decide_eq_false h3, Bool.false_and, Bool.and_false]
    have e1 : keyS (k : Int) p n = ⟨#[]⟩ := by unfold keyS; rw [if_neg (by rw [hb]; decide)]
    have e2 : keyE (k : Int) p n = 41 := by unfold keyE; rw [if_neg (by rw [hb]; decide), if_pos (by omega), if_neg h3]
    rw [e1, e2]
    clear h3 hb e1 e2
    go_enter Tryd.func11, Tryd.ntmps11
    go_wp2_with (go_at_call 28; (with_reducible refine KP.out.mono ?_); rintro e w1 ⟨rfl, hb⟩; have HB := Lib.hid hb; clear hb)
    go_ret2
    exact ⟨rfl, HB.out⟩
  have k_ := KP.out
  simp only [h3] at k_
  have KP := Lib.hid k_
  clear k_
  have h40 : okKey (k : Int) p n = false → keyS (k : Int) p n = ⟨#[]⟩ ∧ keyE (k : Int) p n = 40 := fun hb =>
    ⟨by unfold keyS; rw [if_neg (by rw [hb]; decide)], by unfold keyE; rw [if_neg (by rw [hb]; decide), if_pos (by omega), if_pos h3]⟩
  have h0 : okKey (k : Int) p n = true → keyS (k : Int) p n = ⟨(keyL k p n).toArray⟩ ∧ keyE (k : Int) p n = 0 := fun hb =>
    ⟨by unfold keyS; rw [if_pos hb, Int.toNat_natCast], by unfold keyE; rw [if_pos hb]⟩
  have hoke : okKey (k : Int) p n = (if k = 0 then decide (n = ⟨#[]⟩) else nameB n) := by
    unfold okKey
    rw [decide_eq_true (show 0 ≤ (k : Int) ∧ (k : Int) ≤ 4 by omega), decide_eq_true h3, Bool.true_and, Bool.true_and]
    by_cases hk0 : k = 0
    · rw [if_pos (by omega), if_pos hk0]
    · rw [if_neg (by omega), if_neg hk0]
  have H40 := Lib.hid h40
  have H0 := Lib.hid h0
  have HOK := Lib.hid hoke
  have H3 := Lib.hid h3
  clear h40 h0 hoke h3
  by_cases hok : okKey (k : Int) p n = true
  rotate_left
  · have hb : okKey (k : Int) p n = false := by simpa using hok
    rw [(H40.out hb).1, (H40.out hb).2]
    have hr := HOK.out
    rw [hb] at hr
    clear hok hb
    by_cases hk0 : k = 0
    · subst hk0
      rw [if_pos rfl] at hr
      have hne : ¬ n = ⟨#[]⟩ := of_decide_eq_false hr.symm
      have hl : n.toList = [] ↔ n = ⟨#[]⟩ := by
        exact lit_list.trans ⟨fun h => ba_ext h, fun h => by rw [h]⟩
      have u1 : n.toList.isEmpty = false := by
        cases hx : n.toList with
        | nil => exact absurd (hl.1 hx) hne
        | cons a b => rfl
      have u2 : (n.toList == ([] : List UInt8)) = false := beq_eq_false_iff_ne.2 (fun e => hne (hl.1 e))
      have u3 : (n.toList != ([] : List UInt8)) = true := by unfold bne; rw [u2]; rfl
      clear hr hne hl
      cases hnm : nameB n with
      | true =>
        have k_ := KN.out
        simp only [hnm] at k_
        have KN := Lib.hid k_
        clear k_ hnm
        go_enter Tryd.func11, Tryd.ntmps11
        go_wp2_with (first
          | (go_at_call 28; (with_reducible refine KP.out.mono ?_); rintro e w1 ⟨rfl, hb⟩; have HB := Lib.hid hb; clear hb)
          | (go_at_call 29; (with_reducible refine (KN.out _).mono ?_); rintro e w2 ⟨rfl, hb⟩; have HB2 := Lib.hid (HB.out.trans (below_lower hb HB.out.size)); clear hb))
        go_ret2
        exact ⟨rfl, HB2.out⟩
      | false =>
        have k_ := KN.out
        simp only [hnm] at k_
        have KN := Lib.hid k_
        clear k_ hnm
        go_enter Tryd.func11, Tryd.ntmps11
        go_wp2_with (first
          | (go_at_call 28; (with_reducible refine KP.out.mono ?_); rintro e w1 ⟨rfl, hb⟩; have HB := Lib.hid hb; clear hb)
          | (go_at_call 29; (with_reducible refine (KN.out _).mono ?_); rintro e w2 ⟨rfl, hb⟩; have HB2 := Lib.hid (HB.out.trans (below_lower hb HB.out.size)); clear hb))
        go_ret2
        exact ⟨rfl, HB2.out⟩
    · rw [if_neg hk0] at hr
      have k_ := KN.out
      simp only [← hr] at k_
      have KN := Lib.hid k_
      have v1 : ((k : Int) == 0) = false := beq_eq_false_iff_ne.2 (by omega)
      have v2 : (k == 0) = false := beq_eq_false_iff_ne.2 hk0
      clear k_ hr hk0
      go_enter Tryd.func11, Tryd.ntmps11
      go_wp2_with (first
        | (go_at_call 28; (with_reducible refine KP.out.mono ?_); rintro e w1 ⟨rfl, hb⟩; have HB := Lib.hid hb; clear hb)
        | (go_at_call 29; (with_reducible refine (KN.out _).mono ?_); rintro e w2 ⟨rfl, hb⟩; have HB2 := Lib.hid (HB.out.trans (below_lower hb HB.out.size)); clear hb))
      go_ret2
      exact ⟨rfl, HB2.out⟩
  · rw [(H0.out hok).1, (H0.out hok).2]
    obtain ⟨_, q2, q3, q4⟩ := okKey_parts hok
    have MK := Lib.hid (fun W g hb hg => make3_ok hk4 q2 q3 q4 W g hb hg)
    have hcut := cut_let hk4
    have hr := HOK.out
    rw [hok] at hr
    have hk63 : (k : Int) + 1 ≤ 9223372036854775807 := by omega
    clear hok q2 q3 q4
    by_cases hk0 : k = 0
    · subst hk0
      rw [if_pos rfl] at hr
      obtain rfl : n = ⟨#[]⟩ := of_decide_eq_true hr.symm
      have k_ := KN.out
      simp only [nameB_emp] at k_
      have KN := Lib.hid k_
      clear k_ hr
      go_enter Tryd.func11, Tryd.ntmps11
      go_wp2_with (first
        | (go_at_call 28; (with_reducible refine KP.out.mono ?_); rintro e w1 ⟨rfl, hb⟩; have HB := Lib.hid hb; clear hb)
        | (go_at_call 29; (with_reducible refine (KN.out _).mono ?_); rintro e w2 ⟨rfl, hb⟩; have HB2 := Lib.hid (HB.out.trans (below_lower hb HB.out.size)); clear hb)
        | (go_at_call 30; (refine (MK.out _ w2.heap.size (blk_new w2 _) (Glob.below GL.out (HB2.out.alloc HB2.out.size _))).mono ?_); rintro e w3 ⟨rfl, hb⟩; have HB3 := Lib.hid ((HB2.out.alloc HB2.out.size _).trans (below_lower hb (HB2.out.alloc HB2.out.size _).size)); clear hb))
      go_ret2
      exact ⟨rfl, HB3.out⟩
    · rw [if_neg hk0] at hr
      have k_ := KN.out
      simp only [← hr] at k_
      have KN := Lib.hid k_
      have v1 : ((k : Int) == 0) = false := beq_eq_false_iff_ne.2 (by omega)
      have v2 : (k == 0) = false := beq_eq_false_iff_ne.2 hk0
      clear k_ hr hk0
      go_enter Tryd.func11, Tryd.ntmps11
      go_wp2_with (first
        | (go_at_call 28; (with_reducible refine KP.out.mono ?_); rintro e w1 ⟨rfl, hb⟩; have HB := Lib.hid hb; clear hb)
        | (go_at_call 29; (with_reducible refine (KN.out _).mono ?_); rintro e w2 ⟨rfl, hb⟩; have HB2 := Lib.hid (HB.out.trans (below_lower hb HB.out.size)); clear hb)
        | (go_at_call 30; (refine (MK.out _ w2.heap.size (blk_new w2 _) (Glob.below GL.out (HB2.out.alloc HB2.out.size _))).mono ?_); rintro e w3 ⟨rfl, hb⟩; have HB3 := Lib.hid ((HB2.out.alloc HB2.out.size _).trans (below_lower hb (HB2.out.alloc HB2.out.size _).size)); clear hb))
      go_ret2
      exact ⟨rfl, HB3.out⟩
theorem object_Key.calls (kind : Int) (p n : ByteArray) (r1 : ByteArray) (r2 : Int) (w : World) (h : object_Key.f kind p n = some (r1, r2)) (hG : Glob w) :
    Calls Tryd.prog 11 #[.int .i64 kind, .string p, .string n] w fun e w' => e = .returned (.tuple #[.string r1, .int .i64 r2]) ∧ Below w.heap.size w w' := by
  unfold object_Key.f at h
  simp only [Option.some.injEq, Prod.mk.injEq] at h
  obtain ⟨rfl, rfl⟩ := h
  exact key_ok kind p n w hG
end Go.Proofs.YtniolbolfclhkaaDoor.Q
namespace Go.Proofs.YtniolbolfclhkaaDoor.Q
open Go.RowKit Go.Proofs.YtniolbolfclhkaaDoorW.PrintWords Go.Proofs.YtniolbolfclhkaaDoorW.PrintLast Go.Proofs.YtniolbolfclhkaaDoorW.PrintMore Go.Proofs.YtniolbolfclhkaaDoor.Pl
set_option linter.unusedVariables false
set_option linter.unusedSimpArgs false
theorem uint_end (k : Nat) (v pos : Int) (inp : List Int) : pack_Reader_Uint.l0 (k + 1) v 10 inp pos 0 = some (0, pos, 21) := by
  simp only [pack_Reader_Uint.l0]
  rw [if_neg (by omega)]
  rfl
theorem pow_step {v d i : Nat} (hv : v < 128 ^ i) (hd : d < 128) : v + d * 128 ^ i < 128 ^ (i + 1) := by
  rw [Nat.pow_succ]
  have h := Nat.mul_le_mul_right (128 ^ i) (show d + 1 ≤ 128 by omega)
  rw [Nat.succ_mul] at h
  omega
theorem pow_top {i : Nat} (hi : i ≤ 9) : (128 : Nat) ^ i ≤ 9223372036854775808 := Nat.le_trans (Nat.pow_le_pow_right (by decide) hi) (by decide)
theorem uint_loop (inp : List Int) (p : Nat) (hb : Bytes inp) (hl : inp.length < 140737488355328) : ∀ (f i v : Nat), i + f = 10 → v < 128 ^ i → p + i ≤ inp.length →
    (∃ e, pack_Reader_Uint.l0 (f + 1) (v : Int) (i : Int) inp (p : Int) 0 = some (0, (p : Int), e) ∧ e ≠ 0 ∧ rdN f (decide (i = 0)) (inp.drop (p + i)) = none) ∨
    (∃ n m, pack_Reader_Uint.l0 (f + 1) (v : Int) (i : Int) inp (p : Int) 0 = some (((v + n * 128 ^ i : Nat) : Int), ((p + i + m : Nat) : Int), 0) ∧ rdN f (decide (i = 0)) (inp.drop (p + i)) = some (n, inp.drop (p + i + m)) ∧ p + i + m ≤ inp.length)
  | 0, i, v, hi, hv, hp => by
    obtain rfl : i = 10 := by omega
    exact .inl ⟨21, uint_end _ _ _ _, by decide, by rw [rdN]⟩
  | f + 1, i, v, hi, hv, hp => by
    have hw : wrap64 ((p : Int) + (i : Int)) = ((p + i : Nat) : Int) := by unfold wrap64; omega
    have h7 : wrap64 (7 * (i : Int)) = 7 * (i : Int) := by unfold wrap64; omega
    have hi1 : wrap64 ((i : Int) + 1) = ((i + 1 : Nat) : Int) := by unfold wrap64; omega
    have hpi : wrap64 ((p : Int) + wrap64 ((i : Int) + 1)) = ((p + i + 1 : Nat) : Int) := by rw [hi1]; unfold wrap64; omega
    cases hd : inp.drop (p + i) with
    | nil =>
      have he : p + i = inp.length := by
        have := congrArg List.length hd
        rw [List.length_drop, List.length_nil] at this
        omega
      refine .inl ⟨20, ?_, by decide, by rw [rdN]⟩
      simp only [pack_Reader_Uint.l0]
      rw [if_pos (by omega), hw, if_pos (by omega)]
      rfl
    | cons b r =>
      obtain ⟨hlt, hrd, hrest⟩ := rd_drop inp (p + i) b r hd
      obtain ⟨b0, b1⟩ := hb b (List.mem_of_mem_drop (by rw [hd]; exact List.mem_cons_self))
      have e128 : b.toNat % 128 < 128 := Nat.mod_lt _ (by decide)
      by_cases hge : b ≥ 128
      · by_cases h9 : i = 9
        · obtain rfl : f = 0 := by omega
          subst h9
          refine .inl ⟨21, ?_, by decide, by rw [rdN, if_pos hge]; rfl⟩
          rw [pack_Reader_Uint.l0, if_pos (by omega), hw, if_neg (by omega), if_pos (by omega), if_pos (by omega), h7, if_pos (by omega), hrd, if_pos hge, hi1]
          exact uint_end _ _ _ _
        · have htop := pow_top (show i + 1 ≤ 9 by omega)
          have hst := pow_step hv e128
          have hsh := shl_byte (i := i) b0 b1 (by omega) (by omega)
          have hor := or_shift hv (show v + b.toNat % 128 * 128 ^ i < 2 ^ 64 by omega)
          have ih := uint_loop inp p hb hl f (i + 1) (v + b.toNat % 128 * 128 ^ i) (by omega) hst (by omega)
          have hstep : pack_Reader_Uint.l0 (f + 1 + 1) (v : Int) (i : Int) inp (p : Int) 0 = pack_Reader_Uint.l0 (f + 1) ((v + b.toNat % 128 * 128 ^ i : Nat) : Int) ((i + 1 : Nat) : Int) inp (p : Int) 0 := by
            rw [pack_Reader_Uint.l0, if_pos (by omega), hw, if_neg (by omega), if_pos (by omega), if_pos (by omega), h7, if_pos (by omega), hrd, if_pos hge, hi1, hsh, hor]
          rw [hstep]
          rw [show p + (i + 1) = p + i + 1 by omega, hrest, decide_eq_false (show ¬ i + 1 = 0 by omega)] at ih
          rcases ih with ⟨e, h1, h2, h3⟩ | ⟨n, m, h1, h2, h3⟩
          · exact .inl ⟨e, h1, h2, by rw [rdN, if_pos hge, h3]⟩
          · refine .inr ⟨b.toNat % 128 + 128 * n, m + 1, ?_, ?_, by omega⟩
            · rw [h1]
              have e1 : v + b.toNat % 128 * 128 ^ i + n * 128 ^ (i + 1) = v + (b.toNat % 128 + 128 * n) * 128 ^ i := by
                rw [Nat.pow_succ, Nat.add_mul, Nat.mul_comm (128 ^ i) 128, ← Nat.mul_assoc, Nat.mul_comm n 128, Nat.add_assoc]
              rw [e1, show p + i + 1 + m = p + i + (m + 1) by omega]
            · rw [rdN, if_pos hge, h2]
              simp only [Option.some.injEq, Prod.mk.injEq]
              exact ⟨by omega, by rw [show p + i + 1 + m = p + i + (m + 1) by omega]⟩
      · by_cases hbad : (i > 0 ∧ b = 0) ∨ (i = 9 ∧ b > 1)
        · refine .inl ⟨21, ?_, by decide, ?_⟩
          · rw [pack_Reader_Uint.l0, if_pos (by omega), hw, if_neg (by omega), if_pos (by omega), if_pos (by omega), h7, if_pos (by omega), hrd, if_neg hge]
            rcases hbad with ⟨h1, h2⟩ | ⟨h1, h2⟩
            · rw [if_pos (by omega), if_pos h2]; rfl
            · rw [if_pos (by omega), if_neg (by omega), if_pos (by omega), if_pos h2]; rfl
          · rw [rdN, if_neg hge, if_pos]
            rcases hbad with ⟨h1, h2⟩ | ⟨h1, h2⟩
            · exact .inl ⟨decide_eq_false (by omega), h2⟩
            · exact .inr ⟨by omega, h2⟩
        · have hbm : b.toNat % 128 = b.toNat := Nat.mod_eq_of_lt (by omega)
          have hsum : v + b.toNat % 128 * 128 ^ i < 2 ^ 64 := by
            by_cases h9 : i = 9
            · have hb1 : b ≤ 1 := Classical.byContradiction fun hx => hbad (.inr ⟨h9, by omega⟩)
              have := Nat.mul_le_mul_right (128 ^ i) (show b.toNat % 128 ≤ 1 by omega)
              have := pow_top (show i ≤ 9 by omega)
              omega
            · have htop := pow_top (show i + 1 ≤ 9 by omega)
              have hst := pow_step hv e128
              omega
          have hsh := shl_byte (i := i) b0 b1 (by omega) (by omega)
          have hor := or_shift hv hsum
          refine .inr ⟨b.toNat, 1, ?_, ?_, by omega⟩
          · rw [pack_Reader_Uint.l0, if_pos (by omega), hw, if_neg (by omega), if_pos (by omega), if_pos (by omega), h7, if_pos (by omega), hrd, if_neg hge, hsh, hor, hpi, hbm]
            have n0 : i > 0 → ¬ b = 0 := fun h1 h2 => hbad (.inl ⟨h1, h2⟩)
            have n9 : i = 9 → ¬ b > 1 := fun h1 h2 => hbad (.inr ⟨h1, h2⟩)
            by_cases h0 : i > 0
            · rw [if_pos (by omega), if_neg (n0 h0)]
              by_cases h9 : i = 9
              · rw [if_pos (by omega), if_neg (n9 h9)]
              · rw [if_neg (by omega)]
            · rw [if_neg (by omega)]
              by_cases h9 : i = 9
              · omega
              · rw [if_neg (by omega)]
          · rw [rdN, if_neg hge, if_neg, hrest]
            rintro (⟨h1, h2⟩ | ⟨h1, h2⟩)
            · exact hbad (.inl ⟨by have := of_decide_eq_false h1; omega, h2⟩)
            · exact hbad (.inr ⟨by omega, h2⟩)
theorem RSt.bounds {inp : List Int} {pos err : Int} {st : RS} (h : RSt inp pos err st) : 0 ≤ pos ∧ pos ≤ inp.length := by
  cases st with
  | none => exact h.2
  | some l => exact ⟨h.2.1, h.2.2.1⟩
theorem uint_f {inp : List Int} {pos err : Int} {st : RS} (h : RSt inp pos err st) (hb : Bytes inp) (hl : inp.length < 140737488355328) :
    ∃ pos' err', pack_Reader_Uint.f 11 inp pos err = some (((rUint st).1 : Int), pos', err') ∧ RSt inp pos' err' (rUint st).2 := by
  unfold pack_Reader_Uint.f
  cases st with
  | none => exact ⟨pos, err, by rw [if_neg h.1]; rfl, h⟩
  | some l =>
    obtain ⟨rfl, h0, h1, h2⟩ := h
    obtain ⟨p, rfl⟩ := Int.eq_ofNat_of_zero_le h0
    rw [if_pos rfl]
    have hloop := uint_loop inp p hb hl 10 0 0 rfl (by decide) (by omega)
    rw [Int.toNat_natCast] at h2
    simp only [Nat.add_zero, h2] at hloop
    unfold rUint
    rcases hloop with ⟨e, e1, e2, e3⟩ | ⟨n, m, e1, e2, e3⟩
    · rw [show (decide True) = true from rfl] at e3
      simp only [e3]
      exact ⟨_, _, e1, e2, by omega, by omega⟩
    · rw [show (decide True) = true from rfl] at e2
      simp only [e2]
      rw [Nat.zero_add, show (128 : Nat) ^ 0 = 1 from rfl, Nat.mul_one] at e1
      exact ⟨_, _, e1, rfl, by omega, by omega, by rw [Int.toNat_natCast]⟩
end Go.Proofs.YtniolbolfclhkaaDoor.Q
namespace Go.Proofs.YtniolbolfclhkaaDoor.Q
open Go.RowKit Go.Proofs.YtniolbolfclhkaaDoorW.PrintWords Go.Proofs.YtniolbolfclhkaaDoorW.PrintLast Go.Proofs.YtniolbolfclhkaaDoorW.PrintMore
attribute [local go_sem] max2_int min2_int max_two min_two max_three min_three max_four min_four   -- for this text's walks alone
set_option linter.unusedVariables false
set_option linter.unusedSimpArgs false
def pack_Reader_Left.f (s0_0 : List Int) (s0_1 : Int) (s0_2 : Int) : Option (Int × Int × Int) := some (wrap64 ((s0_0.length : Int) - s0_1), s0_1, s0_2)
set_option maxHeartbeats 8000000 in
set_option maxRecDepth 100000 in
theorem pack_Reader_Left.calls (g : Nat) (s0_0 : List Int) (s0_1 : Int) (s0_2 : Int) (r1 : Int) (r2 : Int) (r3 : Int) (w0 w : World) (hI : IsS107 w0 w g s0_0 s0_1 s0_2) (hB : Below w0.heap.size w0 w) (h : pack_Reader_Left.f s0_0 s0_1 s0_2 = some (r1, r2, r3)) :
  Calls Tryd.prog 64 #[.pointer (some ⟨g,0,none⟩)] w fun e w' => e = .returned (.int .i64 r1) ∧ IsS107 w0 w' g s0_0 r2 r3 ∧ Below w0.heap.size w0 w' ∧ KeepBut w w' g none:=by
 have HI0:=Aside0.mk hI
 have HK:=Aside0.mk (KeepBut.refl w g none)
 have HL:=Aside0.mk hB.size
 clear hI
 have HW0:=Aside0.mk hB.size
 have HB:=Aside0.mk hB
 clear hB
 have H : (some (wrap64 ((s0_0.length : Int) - s0_1),s0_1,s0_2)) = some (r1,r2,r3):=h
 clear h
 simp only [Option.some.injEq,Prod.mk.injEq] at H
 obtain ⟨rfl,rfl,rfl⟩:=H
 obtain ⟨ASz2_0,cSz2_0,HGz2,hgz2,HSz2_0⟩:=HI0.out
 have hcz2_0:=cellS107_0 HGz2
 have hcz2_1:=cellS107_1 HGz2
 have hcz2_2:=cellS107_2 HGz2
 have hfz2_1:=blk_frozen HGz2 1
 have hfz2_2:=blk_frozen HGz2 2
 clear HGz2 hgz2
 go_enter Tryd.func64,Tryd.ntmps64
 go_wp2
 repeat (go_quiet (fail);try go_wp2)
 go_ret
 exact ⟨by first|rfl|(simp [errW_none,errW_some] <;> rfl)|(simp [*,errW_none,errW_some] <;> rfl),by repeat (first|(with_reducible first|exact HI0.out|apply IsS107.alloc|apply IsS107.drewN|apply IsS107.drew|apply IsS107.set_1|apply IsS107.set_2)|exact HI0.out),by repeat (first|(with_reducible first|exact HB.out|apply below_alloc|apply pw_below_drewN|apply below_drew1|refine below_set ?_ (IsS107.ge HI0.out))|exact HB.out),by repeat (first|(with_reducible first|exact HK.out|apply KeepBut.set_|apply keep_drewN|apply keep_drew|apply keep_alloc)|exact HK.out)⟩
end Go.Proofs.YtniolbolfclhkaaDoor.Q
namespace Go.Proofs.YtniolbolfclhkaaDoor.Q
open Go.RowKit Go.Proofs.YtniolbolfclhkaaDoorW.PrintWords Go.Proofs.YtniolbolfclhkaaDoorW.PrintLast Go.Proofs.YtniolbolfclhkaaDoorW.PrintMore
attribute [local go_sem] max2_int min2_int max_two min_two max_three min_three max_four min_four   -- for this text's walks alone
set_option linter.unusedVariables false
set_option linter.unusedSimpArgs false
def pack_Reader_Byte.f (s0_0 : List Int) (s0_1 : Int) (s0_2 : Int) : Option (Int × Int × Int) := if s0_2 = 0 then ((pack_Reader_Left.f s0_0 s0_1 s0_2).bind fun bt494 => (if bt494.1 = 0 then (some (0, bt494.2.1, 20)) else (if 0 ≤ (wrap64 ((wrap64 (bt494.2.1 + 1)) - 1)) then (if (wrap64 ((wrap64 (bt494.2.1 + 1)) - 1)) < (s0_0.length : Int) then (some (rd s0_0 (wrap64 ((wrap64 (bt494.2.1 + 1)) - 1)), wrap64 (bt494.2.1 + 1), bt494.2.2)) else (none)) else (none)))) else (some (0, s0_1, s0_2))
set_option maxHeartbeats 8000000 in
set_option maxRecDepth 100000 in
theorem pack_Reader_Byte.calls (g : Nat) (s0_0 : List Int) (s0_1 : Int) (s0_2 : Int) (r1 : Int) (r2 : Int) (r3 : Int) (w0 w : World) (hI : IsS107 w0 w g s0_0 s0_1 s0_2) (hB : Below w0.heap.size w0 w) (h : pack_Reader_Byte.f s0_0 s0_1 s0_2 = some (r1, r2, r3)) :
  Calls Tryd.prog 40 #[.pointer (some ⟨g,0,none⟩)] w fun e w' => e = .returned (.int .u8 r1) ∧ IsS107 w0 w' g s0_0 r2 r3 ∧ Below w0.heap.size w0 w' ∧ KeepBut w w' g none:=by
 have HI0:=Aside0.mk hI
 have HK:=Aside0.mk (KeepBut.refl w g none)
 have HL:=Aside0.mk hB.size
 clear hI
 have HW0:=Aside0.mk hB.size
 have HB:=Aside0.mk hB
 clear hB
 have H : (if s0_2 = 0 then ((pack_Reader_Left.f s0_0 s0_1 s0_2).bind fun bt494 => (if bt494.1 = 0 then (some (0,bt494.2.1,20)) else (if 0 ≤ (wrap64 ((wrap64 (bt494.2.1 + 1)) - 1)) then (if (wrap64 ((wrap64 (bt494.2.1 + 1)) - 1)) < (s0_0.length : Int) then (some (rd s0_0 (wrap64 ((wrap64 (bt494.2.1 + 1)) - 1)),wrap64 (bt494.2.1 + 1),bt494.2.2)) else (none)) else (none)))) else (some (0,s0_1,s0_2))) = some (r1,r2,r3):=h
 clear h
 by_cases c2 : s0_2 = 0
 rotate_left
 ·rw [if_neg c2] at H
  have c2b0 : (s0_2 == 0) = false:=beq_eq_false_iff_ne.mpr c2
  have c2b1 : (s0_2 != 0) = true:=bne_iff_ne.mpr c2
  simp only [Option.some.injEq,Prod.mk.injEq] at H
  obtain ⟨rfl,rfl,rfl⟩:=H
  obtain ⟨ASz14_0,cSz14_0,HGz14,hgz14,HSz14_0⟩:=HI0.out
  have hcz14_0:=cellS107_0 HGz14
  have hcz14_1:=cellS107_1 HGz14
  have hcz14_2:=cellS107_2 HGz14
  have hfz14_1:=blk_frozen HGz14 1
  have hfz14_2:=blk_frozen HGz14 2
  clear HGz14 hgz14
  go_enter Tryd.func40,Tryd.ntmps40
  go_wp2
  repeat (go_quiet (fail);try go_wp2)
  go_ret
  exact ⟨by first|rfl|(simp [errW_none,errW_some] <;> rfl)|(simp [*,errW_none,errW_some] <;> rfl),by repeat (first|(with_reducible first|exact HI0.out|apply IsS107.alloc|apply IsS107.drewN|apply IsS107.drew|apply IsS107.set_1|apply IsS107.set_2)|exact HI0.out),by repeat (first|(with_reducible first|exact HB.out|apply below_alloc|apply pw_below_drewN|apply below_drew1|refine below_set ?_ (IsS107.ge HI0.out))|exact HB.out),by repeat (first|(with_reducible first|exact HK.out|apply KeepBut.set_|apply keep_drewN|apply keep_drew|apply keep_alloc)|exact HK.out)⟩
 rw [if_pos c2] at H
 have c2b0 : (s0_2 == 0) = true:=beq_iff_eq.mpr c2
 have c2b1 : (s0_2 != 0) = false:=bne_eq_false_iff_eq.mpr c2
 clear c2
 replace H:=Option.bind_eq_some_iff.mp H
 obtain ⟨⟨t494,t495,t496⟩,A30,H⟩:=H
 replace H : (if t494 = 0 then (some (0,t495,20)) else (if 0 ≤ (wrap64 ((wrap64 (t495 + 1)) - 1)) then (if (wrap64 ((wrap64 (t495 + 1)) - 1)) < (s0_0.length : Int) then (some (rd s0_0 (wrap64 ((wrap64 (t495 + 1)) - 1)),wrap64 (t495 + 1),t496)) else (none)) else (none))) = some (r1,r2,r3):=H
 have A3:=Aside0.mk A30
 clear A30
 by_cases c4 : t494 = 0
 ·rw [if_pos c4] at H
  have c4b0 : (t494 == 0) = true:=beq_iff_eq.mpr c4
  have c4b1 : (t494 != 0) = false:=bne_eq_false_iff_eq.mpr c4
  clear c4
  simp only [Option.some.injEq,Prod.mk.injEq] at H
  obtain ⟨rfl,rfl,rfl⟩:=H
  obtain ⟨ASz5_0,cSz5_0,HGz5,hgz5,HSz5_0⟩:=HI0.out
  have hcz5_0:=cellS107_0 HGz5
  have hcz5_1:=cellS107_1 HGz5
  have hcz5_2:=cellS107_2 HGz5
  have hfz5_1:=blk_frozen HGz5 1
  have hfz5_2:=blk_frozen HGz5 2
  clear HGz5 hgz5
  go_enter Tryd.func40,Tryd.ntmps40
  go_wp2_with (first|(go_at_call 64;(with_reducible refine (pack_Reader_Left.calls g s0_0 s0_1 s0_2 t494 t495 t496 w0 _ ?side1 ?side2 A3.out).mono ?_);(case side1 => repeat (first|(with_reducible first|exact HI0.out|apply IsS107.alloc|apply IsS107.drewN|apply IsS107.drew|apply IsS107.set_1|apply IsS107.set_2)|exact HI0.out));(case side2 => repeat (first|(with_reducible first|exact HB.out|apply below_alloc|apply pw_below_drewN|apply below_drew1|refine below_set ?_ (IsS107.ge HI0.out))|exact HB.out));rintro e w6 ⟨rfl,hi,hb,hk⟩;have n0_:=Aside0.mk (KeepBut.trans (by repeat (first|(with_reducible first|exact HK.out|apply KeepBut.set_|apply keep_drewN|apply keep_drew|apply keep_alloc)|exact HK.out)) hk (.inl rfl));have n1_:=Aside0.mk (hb);have n2_:=Aside0.mk (hi);clear HK;clear HB;clear HI0;have HK:=n0_;have HB:=n1_;have HI0:=n2_;clear n0_ n1_ n2_;(try clear hb);(try clear hb2);(try clear hk);(try clear hi);obtain ⟨ASz7_0,cSz7_0,HGz7,hgz7,HSz7_0⟩:=HI0.out;have hcz7_0:=cellS107_0 HGz7;have hcz7_1:=cellS107_1 HGz7;have hcz7_2:=cellS107_2 HGz7;have hfz7_1:=blk_frozen HGz7 1;have hfz7_2:=blk_frozen HGz7 2;clear HGz7 hgz7))
  repeat (go_quiet (first|(go_at_call 64;(with_reducible refine (pack_Reader_Left.calls g s0_0 s0_1 s0_2 t494 t495 t496 w0 _ ?side1 ?side2 A3.out).mono ?_);(case side1 => repeat (first|(with_reducible first|exact HI0.out|apply IsS107.alloc|apply IsS107.drewN|apply IsS107.drew|apply IsS107.set_1|apply IsS107.set_2)|exact HI0.out));(case side2 => repeat (first|(with_reducible first|exact HB.out|apply below_alloc|apply pw_below_drewN|apply below_drew1|refine below_set ?_ (IsS107.ge HI0.out))|exact HB.out));rintro e w6 ⟨rfl,hi,hb,hk⟩;have n0_:=Aside0.mk (KeepBut.trans (by repeat (first|(with_reducible first|exact HK.out|apply KeepBut.set_|apply keep_drewN|apply keep_drew|apply keep_alloc)|exact HK.out)) hk (.inl rfl));have n1_:=Aside0.mk (hb);have n2_:=Aside0.mk (hi);clear HK;clear HB;clear HI0;have HK:=n0_;have HB:=n1_;have HI0:=n2_;clear n0_ n1_ n2_;(try clear hb);(try clear hb2);(try clear hk);(try clear hi);obtain ⟨ASz7_0,cSz7_0,HGz7,hgz7,HSz7_0⟩:=HI0.out;have hcz7_0:=cellS107_0 HGz7;have hcz7_1:=cellS107_1 HGz7;have hcz7_2:=cellS107_2 HGz7;have hfz7_1:=blk_frozen HGz7 1;have hfz7_2:=blk_frozen HGz7 2;clear HGz7 hgz7));try go_wp2_with (first|(go_at_call 64;(with_reducible refine (pack_Reader_Left.calls g s0_0 s0_1 s0_2 t494 t495 t496 w0 _ ?side1 ?side2 A3.out).mono ?_);(case side1 => repeat (first|(with_reducible first|exact HI0.out|apply IsS107.alloc|apply IsS107.drewN|apply IsS107.drew|apply IsS107.set_1|apply IsS107.set_2)|exact HI0.out));(case side2 => repeat (first|(with_reducible first|exact HB.out|apply below_alloc|apply pw_below_drewN|apply below_drew1|refine below_set ?_ (IsS107.ge HI0.out))|exact HB.out));rintro e w6 ⟨rfl,hi,hb,hk⟩;have n0_:=Aside0.mk (KeepBut.trans (by repeat (first|(with_reducible first|exact HK.out|apply KeepBut.set_|apply keep_drewN|apply keep_drew|apply keep_alloc)|exact HK.out)) hk (.inl rfl));have n1_:=Aside0.mk (hb);have n2_:=Aside0.mk (hi);clear HK;clear HB;clear HI0;have HK:=n0_;have HB:=n1_;have HI0:=n2_;clear n0_ n1_ n2_;(try clear hb);(try clear hb2);(try clear hk);(try clear hi);obtain ⟨ASz7_0,cSz7_0,HGz7,hgz7,HSz7_0⟩:=HI0.out;have hcz7_0:=cellS107_0 HGz7;have hcz7_1:=cellS107_1 HGz7;have hcz7_2:=cellS107_2 HGz7;have hfz7_1:=blk_frozen HGz7 1;have hfz7_2:=blk_frozen HGz7 2;clear HGz7 hgz7)))
  go_ret
  exact ⟨by first|rfl|(simp [errW_none,errW_some] <;> rfl)|(simp [*,errW_none,errW_some] <;> rfl),by repeat (first|(with_reducible first|exact HI0.out|apply IsS107.alloc|apply IsS107.drewN|apply IsS107.drew|apply IsS107.set_1|apply IsS107.set_2)|exact HI0.out),by repeat (first|(with_reducible first|exact HB.out|apply below_alloc|apply pw_below_drewN|apply below_drew1|refine below_set ?_ (IsS107.ge HI0.out))|exact HB.out),by repeat (first|(with_reducible first|exact HK.out|apply KeepBut.set_|apply keep_drewN|apply keep_drew|apply keep_alloc)|exact HK.out)⟩
 rw [if_neg c4] at H
 have c4b0 : (t494 == 0) = false:=beq_eq_false_iff_ne.mpr c4
 have c4b1 : (t494 != 0) = true:=bne_iff_ne.mpr c4
 obtain ⟨ji8,hji8⟩ : ∃ j_ : Int,(wrap64 ((wrap64 (t495 + 1)) - 1)) = j_:=⟨_,rfl⟩
 replace H : (if 0 ≤ (ji8) then (if (ji8) < (s0_0.length : Int) then (some (rd s0_0 (ji8),wrap64 (t495 + 1),t496)) else (none)) else (none)) = some (r1,r2,r3):=by first|(rw [hji8] at H;exact H)|(simp only [hji8] at H ⊢;exact H)
 (try rw [hji8] at A3)
 have hji8w : (IntKind.i64.wrap ((wrap64 (t495 + 1)) - 1)) = ji8:=(i64_w _).trans hji8
 by_cases c9 : 0 ≤ (ji8)
 rotate_left
 ·rw [if_neg c9] at H
  exact absurd H (by simp)
 rw [if_pos c9] at H
 have c9b0 : decide (0 ≤ (ji8)) = true:=decide_eq_true c9
 clear c9
 by_cases c10 : (ji8) < (s0_0.length : Int)
 rotate_left
 ·rw [if_neg c10] at H
  exact absurd H (by simp)
 rw [if_pos c10] at H
 have c10b0 : decide ((ji8) < (s0_0.length : Int)) = true:=decide_eq_true c10
 clear c10
 simp only [Option.some.injEq,Prod.mk.injEq] at H
 obtain ⟨rfl,rfl,rfl⟩:=H
 obtain ⟨ASz11_0,cSz11_0,HGz11,hgz11,HSz11_0⟩:=HI0.out
 have hcz11_0:=cellS107_0 HGz11
 have hcz11_1:=cellS107_1 HGz11
 have hcz11_2:=cellS107_2 HGz11
 have hfz11_1:=blk_frozen HGz11 1
 have hfz11_2:=blk_frozen HGz11 2
 clear HGz11 hgz11
 go_enter Tryd.func40,Tryd.ntmps40
 go_wp2_with (first|(go_at_call 64;(with_reducible refine (pack_Reader_Left.calls g s0_0 s0_1 s0_2 t494 t495 t496 w0 _ ?side1 ?side2 A3.out).mono ?_);(case side1 => repeat (first|(with_reducible first|exact HI0.out|apply IsS107.alloc|apply IsS107.drewN|apply IsS107.drew|apply IsS107.set_1|apply IsS107.set_2)|exact HI0.out));(case side2 => repeat (first|(with_reducible first|exact HB.out|apply below_alloc|apply pw_below_drewN|apply below_drew1|refine below_set ?_ (IsS107.ge HI0.out))|exact HB.out));rintro e w12 ⟨rfl,hi,hb,hk⟩;have n0_:=Aside0.mk (KeepBut.trans (by repeat (first|(with_reducible first|exact HK.out|apply KeepBut.set_|apply keep_drewN|apply keep_drew|apply keep_alloc)|exact HK.out)) hk (.inl rfl));have n1_:=Aside0.mk (hb);have n2_:=Aside0.mk (hi);clear HK;clear HB;clear HI0;have HK:=n0_;have HB:=n1_;have HI0:=n2_;clear n0_ n1_ n2_;(try clear hb);(try clear hb2);(try clear hk);(try clear hi);obtain ⟨ASz13_0,cSz13_0,HGz13,hgz13,HSz13_0⟩:=HI0.out;have hcz13_0:=cellS107_0 HGz13;have hcz13_1:=cellS107_1 HGz13;have hcz13_2:=cellS107_2 HGz13;have hfz13_1:=blk_frozen HGz13 1;have hfz13_2:=blk_frozen HGz13 2;clear HGz13 hgz13;have p497 : 0 ≤ ((ji8) : Int):=of_decide_eq_true (by first|(with_reducible assumption)|assumption);have q497 : (ji8) < (s0_0.length : Int):=of_decide_eq_true (by first|(with_reducible assumption)|assumption);obtain ⟨ad497,e497,hx497_0⟩:=Kd.at_int HSz13_0 (ji8) p497 q497;cases e497;have hn497_0 : ad497.block ≠ g:=Nat.ne_of_lt (Nat.lt_of_lt_of_le (by have:=World.block_lt_of_cell? _ _ hx497_0;first|rwa [add_block] at this|exact this) (IsS107.ge HI0.out));replace hx497_0:=pw_cell_below HB.out hx497_0;replace hx497_0:=(cell_far (p:=⟨g,1,none⟩) (by first|(rw [add_block];exact hn497_0)|(show (Addr.add _ _).block ≠ _;rw [add_block];exact hn497_0)|exact hn497_0) (.int .i64 (wrap64 (t495 + 1)))).trans hx497_0;(try have hy497_0:=fun (n_ : Nat) => (show (((w12.drewN n_).setCell ⟨g,1,none⟩ (.int .i64 (wrap64 (t495 + 1))))).cell? _ = some _ from hx497_0));clear hn497_0;replace p497:=eq_true p497;replace q497:=eq_true q497))
 repeat (go_quiet (first|(go_at_call 64;(with_reducible refine (pack_Reader_Left.calls g s0_0 s0_1 s0_2 t494 t495 t496 w0 _ ?side1 ?side2 A3.out).mono ?_);(case side1 => repeat (first|(with_reducible first|exact HI0.out|apply IsS107.alloc|apply IsS107.drewN|apply IsS107.drew|apply IsS107.set_1|apply IsS107.set_2)|exact HI0.out));(case side2 => repeat (first|(with_reducible first|exact HB.out|apply below_alloc|apply pw_below_drewN|apply below_drew1|refine below_set ?_ (IsS107.ge HI0.out))|exact HB.out));rintro e w12 ⟨rfl,hi,hb,hk⟩;have n0_:=Aside0.mk (KeepBut.trans (by repeat (first|(with_reducible first|exact HK.out|apply KeepBut.set_|apply keep_drewN|apply keep_drew|apply keep_alloc)|exact HK.out)) hk (.inl rfl));have n1_:=Aside0.mk (hb);have n2_:=Aside0.mk (hi);clear HK;clear HB;clear HI0;have HK:=n0_;have HB:=n1_;have HI0:=n2_;clear n0_ n1_ n2_;(try clear hb);(try clear hb2);(try clear hk);(try clear hi);obtain ⟨ASz13_0,cSz13_0,HGz13,hgz13,HSz13_0⟩:=HI0.out;have hcz13_0:=cellS107_0 HGz13;have hcz13_1:=cellS107_1 HGz13;have hcz13_2:=cellS107_2 HGz13;have hfz13_1:=blk_frozen HGz13 1;have hfz13_2:=blk_frozen HGz13 2;clear HGz13 hgz13;have p497 : 0 ≤ ((ji8) : Int):=of_decide_eq_true (by first|(with_reducible assumption)|assumption);have q497 : (ji8) < (s0_0.length : Int):=of_decide_eq_true (by first|(with_reducible assumption)|assumption);obtain ⟨ad497,e497,hx497_0⟩:=Kd.at_int HSz13_0 (ji8) p497 q497;cases e497;have hn497_0 : ad497.block ≠ g:=Nat.ne_of_lt (Nat.lt_of_lt_of_le (by have:=World.block_lt_of_cell? _ _ hx497_0;first|rwa [add_block] at this|exact this) (IsS107.ge HI0.out));replace hx497_0:=pw_cell_below HB.out hx497_0;replace hx497_0:=(cell_far (p:=⟨g,1,none⟩) (by first|(rw [add_block];exact hn497_0)|(show (Addr.add _ _).block ≠ _;rw [add_block];exact hn497_0)|exact hn497_0) (.int .i64 (wrap64 (t495 + 1)))).trans hx497_0;(try have hy497_0:=fun (n_ : Nat) => (show (((w12.drewN n_).setCell ⟨g,1,none⟩ (.int .i64 (wrap64 (t495 + 1))))).cell? _ = some _ from hx497_0));clear hn497_0;replace p497:=eq_true p497;replace q497:=eq_true q497));try go_wp2_with (first|(go_at_call 64;(with_reducible refine (pack_Reader_Left.calls g s0_0 s0_1 s0_2 t494 t495 t496 w0 _ ?side1 ?side2 A3.out).mono ?_);(case side1 => repeat (first|(with_reducible first|exact HI0.out|apply IsS107.alloc|apply IsS107.drewN|apply IsS107.drew|apply IsS107.set_1|apply IsS107.set_2)|exact HI0.out));(case side2 => repeat (first|(with_reducible first|exact HB.out|apply below_alloc|apply pw_below_drewN|apply below_drew1|refine below_set ?_ (IsS107.ge HI0.out))|exact HB.out));rintro e w12 ⟨rfl,hi,hb,hk⟩;have n0_:=Aside0.mk (KeepBut.trans (by repeat (first|(with_reducible first|exact HK.out|apply KeepBut.set_|apply keep_drewN|apply keep_drew|apply keep_alloc)|exact HK.out)) hk (.inl rfl));have n1_:=Aside0.mk (hb);have n2_:=Aside0.mk (hi);clear HK;clear HB;clear HI0;have HK:=n0_;have HB:=n1_;have HI0:=n2_;clear n0_ n1_ n2_;(try clear hb);(try clear hb2);(try clear hk);(try clear hi);obtain ⟨ASz13_0,cSz13_0,HGz13,hgz13,HSz13_0⟩:=HI0.out;have hcz13_0:=cellS107_0 HGz13;have hcz13_1:=cellS107_1 HGz13;have hcz13_2:=cellS107_2 HGz13;have hfz13_1:=blk_frozen HGz13 1;have hfz13_2:=blk_frozen HGz13 2;clear HGz13 hgz13;have p497 : 0 ≤ ((ji8) : Int):=of_decide_eq_true (by first|(with_reducible assumption)|assumption);have q497 : (ji8) < (s0_0.length : Int):=of_decide_eq_true (by first|(with_reducible assumption)|assumption);obtain ⟨ad497,e497,hx497_0⟩:=Kd.at_int HSz13_0 (ji8) p497 q497;cases e497;have hn497_0 : ad497.block ≠ g:=Nat.ne_of_lt (Nat.lt_of_lt_of_le (by have:=World.block_lt_of_cell? _ _ hx497_0;first|rwa [add_block] at this|exact this) (IsS107.ge HI0.out));replace hx497_0:=pw_cell_below HB.out hx497_0;replace hx497_0:=(cell_far (p:=⟨g,1,none⟩) (by first|(rw [add_block];exact hn497_0)|(show (Addr.add _ _).block ≠ _;rw [add_block];exact hn497_0)|exact hn497_0) (.int .i64 (wrap64 (t495 + 1)))).trans hx497_0;(try have hy497_0:=fun (n_ : Nat) => (show (((w12.drewN n_).setCell ⟨g,1,none⟩ (.int .i64 (wrap64 (t495 + 1))))).cell? _ = some _ from hx497_0));clear hn497_0;replace p497:=eq_true p497;replace q497:=eq_true q497)))
 go_ret
 exact ⟨by first|rfl|(simp [errW_none,errW_some] <;> rfl)|(simp only [← hji8];first|rfl|(simp [errW_none,errW_some] <;> rfl))|(simp [*,errW_none,errW_some] <;> rfl),by repeat (first|(with_reducible first|exact HI0.out|apply IsS107.alloc|apply IsS107.drewN|apply IsS107.drew|apply IsS107.set_1|apply IsS107.set_2)|exact HI0.out),by repeat (first|(with_reducible first|exact HB.out|apply below_alloc|apply pw_below_drewN|apply below_drew1|refine below_set ?_ (IsS107.ge HI0.out))|exact HB.out),by repeat (first|(with_reducible first|exact HK.out|apply KeepBut.set_|apply keep_drewN|apply keep_drew|apply keep_alloc)|exact HK.out)⟩
end Go.Proofs.YtniolbolfclhkaaDoor.Q
namespace Go.Proofs.YtniolbolfclhkaaDoor.Q
open Go.RowKit Go.Proofs.YtniolbolfclhkaaDoorW.PrintWords Go.Proofs.YtniolbolfclhkaaDoorW.PrintLast Go.Proofs.YtniolbolfclhkaaDoorW.PrintMore
attribute [local go_sem] max2_int min2_int max_two min_two max_three min_three max_four min_four   -- for this text's walks alone
set_option linter.unusedVariables false
set_option linter.unusedSimpArgs false
def pack_Reader_Count.f (k : Nat) (s0_0 : List Int) (s0_1 : Int) (s0_2 : Int) (a1 : Int) : Option (Int × Int × Int) := (pack_Reader_Uint.f k s0_0 s0_1 s0_2).bind fun bt498 => (if bt498.2.2 = 0 then (if a1 < 0 then ((pack_Reader_fail.f s0_0 bt498.2.1 bt498.2.2 s0_1 23).bind fun bt501 => (some (0, bt501.1, bt501.2))) else (if bt498.1 > (IntKind.u64.wrap (a1)) then ((pack_Reader_fail.f s0_0 bt498.2.1 bt498.2.2 s0_1 23).bind fun bt503 => (some (0, bt503.1, bt503.2))) else (if bt498.1 > 4096 then ((pack_Reader_fail.f s0_0 bt498.2.1 bt498.2.2 s0_1 23).bind fun bt505 => (some (0, bt505.1, bt505.2))) else (some (wrap64 (bt498.1), bt498.2.1, bt498.2.2))))) else (some (0, bt498.2.1, bt498.2.2)))
theorem pack_Reader_Count.mono : ∀ a0 a1 a2 a3 k, LeO (pack_Reader_Count.f k a0 a1 a2 a3) (pack_Reader_Count.f (k + 1) a0 a1 a2 a3) := by
 intro a0 a1 a2 a3 k
 unfold pack_Reader_Count.f
 repeat' first
  |(with_reducible exact pack_Reader_Uint.mono _ _ _ _)
  |(with_reducible exact LeO.refl _)
  |(with_reducible exact LeO.none _)
  |(with_reducible refine LeO.ite ?_ ?_)
  |(with_reducible refine LeO.bind ?_ (fun _ => ?_))
  |exact pack_Reader_Uint.mono _ _ _ _
  |exact LeO.none _
  |refine LeO.ite ?_ ?_
  |refine LeO.bind ?_ (fun _ => ?_)
set_option maxHeartbeats 8000000 in
set_option maxRecDepth 100000 in
theorem pack_Reader_Count.calls (k : Nat) (g : Nat) (s0_0 : List Int) (s0_1 : Int) (s0_2 : Int) (a1 : Int) (r1 : Int) (r2 : Int) (r3 : Int) (w0 w : World) (hI : IsS107 w0 w g s0_0 s0_1 s0_2) (hB : Below w0.heap.size w0 w) (h : pack_Reader_Count.f k s0_0 s0_1 s0_2 a1 = some (r1, r2, r3)) :
  Calls Tryd.prog 39 #[.pointer (some ⟨g,0,none⟩),.int .i64 a1] w fun e w' => e = .returned (.int .i64 r1) ∧ IsS107 w0 w' g s0_0 r2 r3 ∧ Below w0.heap.size w0 w' ∧ KeepBut w w' g none:=by
 have HI0:=Aside0.mk hI
 have HK:=Aside0.mk (KeepBut.refl w g none)
 have HL:=Aside0.mk hB.size
 clear hI
 have HW0:=Aside0.mk hB.size
 have HB:=Aside0.mk hB
 clear hB
 have H : ((pack_Reader_Uint.f k s0_0 s0_1 s0_2).bind fun bt498 => (if bt498.2.2 = 0 then (if a1 < 0 then ((pack_Reader_fail.f s0_0 bt498.2.1 bt498.2.2 s0_1 23).bind fun bt501 => (some (0,bt501.1,bt501.2))) else (if bt498.1 > (IntKind.u64.wrap (a1)) then ((pack_Reader_fail.f s0_0 bt498.2.1 bt498.2.2 s0_1 23).bind fun bt503 => (some (0,bt503.1,bt503.2))) else (if bt498.1 > 4096 then ((pack_Reader_fail.f s0_0 bt498.2.1 bt498.2.2 s0_1 23).bind fun bt505 => (some (0,bt505.1,bt505.2))) else (some (wrap64 (bt498.1),bt498.2.1,bt498.2.2))))) else (some (0,bt498.2.1,bt498.2.2)))) = some (r1,r2,r3):=h
 clear h
 replace H:=Option.bind_eq_some_iff.mp H
 obtain ⟨⟨t498,t499,t500⟩,A30,H⟩:=H
 replace H : (if t500 = 0 then (if a1 < 0 then ((pack_Reader_fail.f s0_0 t499 t500 s0_1 23).bind fun bt501 => (some (0,bt501.1,bt501.2))) else (if t498 > (IntKind.u64.wrap (a1)) then ((pack_Reader_fail.f s0_0 t499 t500 s0_1 23).bind fun bt503 => (some (0,bt503.1,bt503.2))) else (if t498 > 4096 then ((pack_Reader_fail.f s0_0 t499 t500 s0_1 23).bind fun bt505 => (some (0,bt505.1,bt505.2))) else (some (wrap64 (t498),t499,t500))))) else (some (0,t499,t500))) = some (r1,r2,r3):=H
 have A3:=Aside0.mk A30
 clear A30
 by_cases c4 : t500 = 0
 rotate_left
 ·rw [if_neg c4] at H
  have c4b0 : (t500 == 0) = false:=beq_eq_false_iff_ne.mpr c4
  have c4b1 : (t500 != 0) = true:=bne_iff_ne.mpr c4
  simp only [Option.some.injEq,Prod.mk.injEq] at H
  obtain ⟨rfl,rfl,rfl⟩:=H
  obtain ⟨ASz26_0,cSz26_0,HGz26,hgz26,HSz26_0⟩:=HI0.out
  have hcz26_0:=cellS107_0 HGz26
  have hcz26_1:=cellS107_1 HGz26
  have hcz26_2:=cellS107_2 HGz26
  have hfz26_1:=blk_frozen HGz26 1
  have hfz26_2:=blk_frozen HGz26 2
  clear HGz26 hgz26
  go_enter Tryd.func39,Tryd.ntmps39
  go_wp2_with (first|((with_reducible refine gate_callee (f:=62) rfl ?_);refine goesL_ (some 12) rfl rfl Tryd.func62 (by kernel_rfl) rfl #[.pointer (some ⟨g,0,none⟩)] rfl (by (try simp only [List.map_toArray,List.map_cons,List.map_nil]);first|done|rfl|(simp only [List.length_drop,List.length_take];rfl)) ?_;(with_reducible refine (pack_Reader_Uint.calls k g s0_0 s0_1 s0_2 t498 t499 t500 w0 _ ?side1 ?side2 A3.out).mono ?_);(case side1 => repeat (first|(with_reducible first|exact HI0.out|apply IsS107.alloc|apply IsS107.drewN|apply IsS107.drew|apply IsS107.set_1|apply IsS107.set_2)|exact HI0.out));(case side2 => repeat (first|(with_reducible first|exact HB.out|apply below_alloc|apply pw_below_drewN|apply below_drew1|refine below_set ?_ (IsS107.ge HI0.out))|exact HB.out));rintro e w27 ⟨rfl,hi,hb,hk⟩;refine ⟨_,rfl,?_⟩;have n0_:=Aside0.mk (KeepBut.trans (by repeat (first|(with_reducible first|exact HK.out|apply KeepBut.set_|apply keep_drewN|apply keep_drew|apply keep_alloc)|exact HK.out)) hk (.inl rfl));have n1_:=Aside0.mk (hb);have n2_:=Aside0.mk (hi);clear HK;clear HB;clear HI0;have HK:=n0_;have HB:=n1_;have HI0:=n2_;clear n0_ n1_ n2_;(try clear hb);(try clear hb2);(try clear hk);(try clear hi);obtain ⟨ASz28_0,cSz28_0,HGz28,hgz28,HSz28_0⟩:=HI0.out;have hcz28_0:=cellS107_0 HGz28;have hcz28_1:=cellS107_1 HGz28;have hcz28_2:=cellS107_2 HGz28;have hfz28_1:=blk_frozen HGz28 1;have hfz28_2:=blk_frozen HGz28 2;clear HGz28 hgz28))
  go_ret
  exact ⟨by first|rfl|(simp [errW_none,errW_some] <;> rfl)|(simp [*,errW_none,errW_some] <;> rfl),by repeat (first|(with_reducible first|exact HI0.out|apply IsS107.alloc|apply IsS107.drewN|apply IsS107.drew|apply IsS107.set_1|apply IsS107.set_2)|exact HI0.out),by repeat (first|(with_reducible first|exact HB.out|apply below_alloc|apply pw_below_drewN|apply below_drew1|refine below_set ?_ (IsS107.ge HI0.out))|exact HB.out),by repeat (first|(with_reducible first|exact HK.out|apply KeepBut.set_|apply keep_drewN|apply keep_drew|apply keep_alloc)|exact HK.out)⟩
 rw [if_pos c4] at H
 have c4b0 : (t500 == 0) = true:=beq_iff_eq.mpr c4
 have c4b1 : (t500 != 0) = false:=bne_eq_false_iff_eq.mpr c4
 clear c4
 by_cases c5 : a1 < 0
 ·rw [if_pos c5] at H
  have c5b0 : decide (a1 < 0) = true:=decide_eq_true c5
  clear c5
  replace H:=Option.bind_eq_some_iff.mp H
  obtain ⟨⟨t501,t502⟩,A60,H⟩:=H
  replace H : (some (0,t501,t502)) = some (r1,r2,r3):=H
  have A6:=Aside0.mk A60
  clear A60
  simp only [Option.some.injEq,Prod.mk.injEq] at H
  obtain ⟨rfl,rfl,rfl⟩:=H
  obtain ⟨ASz7_0,cSz7_0,HGz7,hgz7,HSz7_0⟩:=HI0.out
  have hcz7_0:=cellS107_0 HGz7
  have hcz7_1:=cellS107_1 HGz7
  have hcz7_2:=cellS107_2 HGz7
  have hfz7_1:=blk_frozen HGz7 1
  have hfz7_2:=blk_frozen HGz7 2
  clear HGz7 hgz7
  go_enter Tryd.func39,Tryd.ntmps39
  go_wp2_with (first|((with_reducible refine gate_callee (f:=62) rfl ?_);refine goesL_ (some 12) rfl rfl Tryd.func62 (by kernel_rfl) rfl #[.pointer (some ⟨g,0,none⟩)] rfl (by (try simp only [List.map_toArray,List.map_cons,List.map_nil]);first|done|rfl|(simp only [List.length_drop,List.length_take];rfl)) ?_;(with_reducible refine (pack_Reader_Uint.calls k g s0_0 s0_1 s0_2 t498 t499 t500 w0 _ ?side1 ?side2 A3.out).mono ?_);(case side1 => repeat (first|(with_reducible first|exact HI0.out|apply IsS107.alloc|apply IsS107.drewN|apply IsS107.drew|apply IsS107.set_1|apply IsS107.set_2)|exact HI0.out));(case side2 => repeat (first|(with_reducible first|exact HB.out|apply below_alloc|apply pw_below_drewN|apply below_drew1|refine below_set ?_ (IsS107.ge HI0.out))|exact HB.out));rintro e w8 ⟨rfl,hi,hb,hk⟩;refine ⟨_,rfl,?_⟩;have n0_:=Aside0.mk (KeepBut.trans (by repeat (first|(with_reducible first|exact HK.out|apply KeepBut.set_|apply keep_drewN|apply keep_drew|apply keep_alloc)|exact HK.out)) hk (.inl rfl));have n1_:=Aside0.mk (hb);have n2_:=Aside0.mk (hi);clear HK;clear HB;clear HI0;have HK:=n0_;have HB:=n1_;have HI0:=n2_;clear n0_ n1_ n2_;(try clear hb);(try clear hb2);(try clear hk);(try clear hi);obtain ⟨ASz9_0,cSz9_0,HGz9,hgz9,HSz9_0⟩:=HI0.out;have hcz9_0:=cellS107_0 HGz9;have hcz9_1:=cellS107_1 HGz9;have hcz9_2:=cellS107_2 HGz9;have hfz9_1:=blk_frozen HGz9 1;have hfz9_2:=blk_frozen HGz9 2;clear HGz9 hgz9)|((with_reducible refine gate_callee (f:=63) rfl ?_);refine goesL_ (some 32) rfl rfl Tryd.func63 (by kernel_rfl) rfl #[.pointer (some ⟨g,0,none⟩),.int .i64 s0_1,.int .i64 23] rfl (by (try simp only [List.map_toArray,List.map_cons,List.map_nil]);first|done|rfl|(simp only [List.length_drop,List.length_take];rfl)) ?_;(with_reducible refine (pack_Reader_fail.calls g s0_0 t499 t500 s0_1 23 t501 t502 w0 _ ?side1 ?side2 A6.out).mono ?_);(case side1 => repeat (first|(with_reducible first|exact HI0.out|apply IsS107.alloc|apply IsS107.drewN|apply IsS107.drew|apply IsS107.set_1|apply IsS107.set_2)|exact HI0.out));(case side2 => repeat (first|(with_reducible first|exact HB.out|apply below_alloc|apply pw_below_drewN|apply below_drew1|refine below_set ?_ (IsS107.ge HI0.out))|exact HB.out));rintro e w10 ⟨rfl,hi,hb,hk⟩;refine ⟨_,rfl,?_⟩;have n0_:=Aside0.mk (KeepBut.trans (by repeat (first|(with_reducible first|exact HK.out|apply KeepBut.set_|apply keep_drewN|apply keep_drew|apply keep_alloc)|exact HK.out)) hk (.inl rfl));have n1_:=Aside0.mk (hb);have n2_:=Aside0.mk (hi);clear HK;clear HB;clear HI0;have HK:=n0_;have HB:=n1_;have HI0:=n2_;clear n0_ n1_ n2_;(try clear hb);(try clear hb2);(try clear hk);(try clear hi)))
  go_ret
  exact ⟨by first|rfl|(simp [errW_none,errW_some] <;> rfl)|(simp [*,errW_none,errW_some] <;> rfl),by repeat (first|(with_reducible first|exact HI0.out|apply IsS107.alloc|apply IsS107.drewN|apply IsS107.drew|apply IsS107.set_1|apply IsS107.set_2)|exact HI0.out),by repeat (first|(with_reducible first|exact HB.out|apply below_alloc|apply pw_below_drewN|apply below_drew1|refine below_set ?_ (IsS107.ge HI0.out))|exact HB.out),by repeat (first|(with_reducible first|exact HK.out|apply KeepBut.set_|apply keep_drewN|apply keep_drew|apply keep_alloc)|exact HK.out)⟩
 rw [if_neg c5] at H
 have c5b0 : decide (a1 < 0) = false:=decide_eq_false c5
 clear c5
 by_cases c11 : t498 > (IntKind.u64.wrap (a1))
 ·rw [if_pos c11] at H
  have c11b0 : decide ((IntKind.u64.wrap (a1)) < t498) = true:=decide_eq_true c11
  clear c11
  replace H:=Option.bind_eq_some_iff.mp H
  obtain ⟨⟨t503,t504⟩,A120,H⟩:=H
  replace H : (some (0,t503,t504)) = some (r1,r2,r3):=H
  have A12:=Aside0.mk A120
  clear A120
  simp only [Option.some.injEq,Prod.mk.injEq] at H
  obtain ⟨rfl,rfl,rfl⟩:=H
  obtain ⟨ASz13_0,cSz13_0,HGz13,hgz13,HSz13_0⟩:=HI0.out
  have hcz13_0:=cellS107_0 HGz13
  have hcz13_1:=cellS107_1 HGz13
  have hcz13_2:=cellS107_2 HGz13
  have hfz13_1:=blk_frozen HGz13 1
  have hfz13_2:=blk_frozen HGz13 2
  clear HGz13 hgz13
  go_enter Tryd.func39,Tryd.ntmps39
  go_wp2_with (first|((with_reducible refine gate_callee (f:=62) rfl ?_);refine goesL_ (some 12) rfl rfl Tryd.func62 (by kernel_rfl) rfl #[.pointer (some ⟨g,0,none⟩)] rfl (by (try simp only [List.map_toArray,List.map_cons,List.map_nil]);first|done|rfl|(simp only [List.length_drop,List.length_take];rfl)) ?_;(with_reducible refine (pack_Reader_Uint.calls k g s0_0 s0_1 s0_2 t498 t499 t500 w0 _ ?side1 ?side2 A3.out).mono ?_);(case side1 => repeat (first|(with_reducible first|exact HI0.out|apply IsS107.alloc|apply IsS107.drewN|apply IsS107.drew|apply IsS107.set_1|apply IsS107.set_2)|exact HI0.out));(case side2 => repeat (first|(with_reducible first|exact HB.out|apply below_alloc|apply pw_below_drewN|apply below_drew1|refine below_set ?_ (IsS107.ge HI0.out))|exact HB.out));rintro e w14 ⟨rfl,hi,hb,hk⟩;refine ⟨_,rfl,?_⟩;have n0_:=Aside0.mk (KeepBut.trans (by repeat (first|(with_reducible first|exact HK.out|apply KeepBut.set_|apply keep_drewN|apply keep_drew|apply keep_alloc)|exact HK.out)) hk (.inl rfl));have n1_:=Aside0.mk (hb);have n2_:=Aside0.mk (hi);clear HK;clear HB;clear HI0;have HK:=n0_;have HB:=n1_;have HI0:=n2_;clear n0_ n1_ n2_;(try clear hb);(try clear hb2);(try clear hk);(try clear hi);obtain ⟨ASz15_0,cSz15_0,HGz15,hgz15,HSz15_0⟩:=HI0.out;have hcz15_0:=cellS107_0 HGz15;have hcz15_1:=cellS107_1 HGz15;have hcz15_2:=cellS107_2 HGz15;have hfz15_1:=blk_frozen HGz15 1;have hfz15_2:=blk_frozen HGz15 2;clear HGz15 hgz15)|((with_reducible refine gate_callee (f:=63) rfl ?_);refine goesL_ (some 32) rfl rfl Tryd.func63 (by kernel_rfl) rfl #[.pointer (some ⟨g,0,none⟩),.int .i64 s0_1,.int .i64 23] rfl (by (try simp only [List.map_toArray,List.map_cons,List.map_nil]);first|done|rfl|(simp only [List.length_drop,List.length_take];rfl)) ?_;(with_reducible refine (pack_Reader_fail.calls g s0_0 t499 t500 s0_1 23 t503 t504 w0 _ ?side1 ?side2 A12.out).mono ?_);(case side1 => repeat (first|(with_reducible first|exact HI0.out|apply IsS107.alloc|apply IsS107.drewN|apply IsS107.drew|apply IsS107.set_1|apply IsS107.set_2)|exact HI0.out));(case side2 => repeat (first|(with_reducible first|exact HB.out|apply below_alloc|apply pw_below_drewN|apply below_drew1|refine below_set ?_ (IsS107.ge HI0.out))|exact HB.out));rintro e w16 ⟨rfl,hi,hb,hk⟩;refine ⟨_,rfl,?_⟩;have n0_:=Aside0.mk (KeepBut.trans (by repeat (first|(with_reducible first|exact HK.out|apply KeepBut.set_|apply keep_drewN|apply keep_drew|apply keep_alloc)|exact HK.out)) hk (.inl rfl));have n1_:=Aside0.mk (hb);have n2_:=Aside0.mk (hi);clear HK;clear HB;clear HI0;have HK:=n0_;have HB:=n1_;have HI0:=n2_;clear n0_ n1_ n2_;(try clear hb);(try clear hb2);(try clear hk);(try clear hi)))
  go_ret
  exact ⟨by first|rfl|(simp [errW_none,errW_some] <;> rfl)|(simp [*,errW_none,errW_some] <;> rfl),by repeat (first|(with_reducible first|exact HI0.out|apply IsS107.alloc|apply IsS107.drewN|apply IsS107.drew|apply IsS107.set_1|apply IsS107.set_2)|exact HI0.out),by repeat (first|(with_reducible first|exact HB.out|apply below_alloc|apply pw_below_drewN|apply below_drew1|refine below_set ?_ (IsS107.ge HI0.out))|exact HB.out),by repeat (first|(with_reducible first|exact HK.out|apply KeepBut.set_|apply keep_drewN|apply keep_drew|apply keep_alloc)|exact HK.out)⟩
 rw [if_neg c11] at H
 have c11b0 : decide ((IntKind.u64.wrap (a1)) < t498) = false:=decide_eq_false c11
 clear c11
 by_cases c17 : t498 > 4096
 rotate_left
 ·rw [if_neg c17] at H
  have c17b0 : decide (4096 < t498) = false:=decide_eq_false c17
  clear c17
  simp only [Option.some.injEq,Prod.mk.injEq] at H
  obtain ⟨rfl,rfl,rfl⟩:=H
  obtain ⟨ASz23_0,cSz23_0,HGz23,hgz23,HSz23_0⟩:=HI0.out
  have hcz23_0:=cellS107_0 HGz23
  have hcz23_1:=cellS107_1 HGz23
  have hcz23_2:=cellS107_2 HGz23
  have hfz23_1:=blk_frozen HGz23 1
  have hfz23_2:=blk_frozen HGz23 2
  clear HGz23 hgz23
  go_enter Tryd.func39,Tryd.ntmps39
  go_wp2_with (first|((with_reducible refine gate_callee (f:=62) rfl ?_);refine goesL_ (some 12) rfl rfl Tryd.func62 (by kernel_rfl) rfl #[.pointer (some ⟨g,0,none⟩)] rfl (by (try simp only [List.map_toArray,List.map_cons,List.map_nil]);first|done|rfl|(simp only [List.length_drop,List.length_take];rfl)) ?_;(with_reducible refine (pack_Reader_Uint.calls k g s0_0 s0_1 s0_2 t498 t499 t500 w0 _ ?side1 ?side2 A3.out).mono ?_);(case side1 => repeat (first|(with_reducible first|exact HI0.out|apply IsS107.alloc|apply IsS107.drewN|apply IsS107.drew|apply IsS107.set_1|apply IsS107.set_2)|exact HI0.out));(case side2 => repeat (first|(with_reducible first|exact HB.out|apply below_alloc|apply pw_below_drewN|apply below_drew1|refine below_set ?_ (IsS107.ge HI0.out))|exact HB.out));rintro e w24 ⟨rfl,hi,hb,hk⟩;refine ⟨_,rfl,?_⟩;have n0_:=Aside0.mk (KeepBut.trans (by repeat (first|(with_reducible first|exact HK.out|apply KeepBut.set_|apply keep_drewN|apply keep_drew|apply keep_alloc)|exact HK.out)) hk (.inl rfl));have n1_:=Aside0.mk (hb);have n2_:=Aside0.mk (hi);clear HK;clear HB;clear HI0;have HK:=n0_;have HB:=n1_;have HI0:=n2_;clear n0_ n1_ n2_;(try clear hb);(try clear hb2);(try clear hk);(try clear hi);obtain ⟨ASz25_0,cSz25_0,HGz25,hgz25,HSz25_0⟩:=HI0.out;have hcz25_0:=cellS107_0 HGz25;have hcz25_1:=cellS107_1 HGz25;have hcz25_2:=cellS107_2 HGz25;have hfz25_1:=blk_frozen HGz25 1;have hfz25_2:=blk_frozen HGz25 2;clear HGz25 hgz25))
  go_ret
  exact ⟨by first|rfl|(simp [errW_none,errW_some] <;> rfl)|(simp [*,errW_none,errW_some] <;> rfl),by repeat (first|(with_reducible first|exact HI0.out|apply IsS107.alloc|apply IsS107.drewN|apply IsS107.drew|apply IsS107.set_1|apply IsS107.set_2)|exact HI0.out),by repeat (first|(with_reducible first|exact HB.out|apply below_alloc|apply pw_below_drewN|apply below_drew1|refine below_set ?_ (IsS107.ge HI0.out))|exact HB.out),by repeat (first|(with_reducible first|exact HK.out|apply KeepBut.set_|apply keep_drewN|apply keep_drew|apply keep_alloc)|exact HK.out)⟩
 rw [if_pos c17] at H
 have c17b0 : decide (4096 < t498) = true:=decide_eq_true c17
 clear c17
 replace H:=Option.bind_eq_some_iff.mp H
 obtain ⟨⟨t505,t506⟩,A180,H⟩:=H
 replace H : (some (0,t505,t506)) = some (r1,r2,r3):=H
 have A18:=Aside0.mk A180
 clear A180
 simp only [Option.some.injEq,Prod.mk.injEq] at H
 obtain ⟨rfl,rfl,rfl⟩:=H
 obtain ⟨ASz19_0,cSz19_0,HGz19,hgz19,HSz19_0⟩:=HI0.out
 have hcz19_0:=cellS107_0 HGz19
 have hcz19_1:=cellS107_1 HGz19
 have hcz19_2:=cellS107_2 HGz19
 have hfz19_1:=blk_frozen HGz19 1
 have hfz19_2:=blk_frozen HGz19 2
 clear HGz19 hgz19
 go_enter Tryd.func39,Tryd.ntmps39
 go_wp2_with (first|((with_reducible refine gate_callee (f:=62) rfl ?_);refine goesL_ (some 12) rfl rfl Tryd.func62 (by kernel_rfl) rfl #[.pointer (some ⟨g,0,none⟩)] rfl (by (try simp only [List.map_toArray,List.map_cons,List.map_nil]);first|done|rfl|(simp only [List.length_drop,List.length_take];rfl)) ?_;(with_reducible refine (pack_Reader_Uint.calls k g s0_0 s0_1 s0_2 t498 t499 t500 w0 _ ?side1 ?side2 A3.out).mono ?_);(case side1 => repeat (first|(with_reducible first|exact HI0.out|apply IsS107.alloc|apply IsS107.drewN|apply IsS107.drew|apply IsS107.set_1|apply IsS107.set_2)|exact HI0.out));(case side2 => repeat (first|(with_reducible first|exact HB.out|apply below_alloc|apply pw_below_drewN|apply below_drew1|refine below_set ?_ (IsS107.ge HI0.out))|exact HB.out));rintro e w20 ⟨rfl,hi,hb,hk⟩;refine ⟨_,rfl,?_⟩;have n0_:=Aside0.mk (KeepBut.trans (by repeat (first|(with_reducible first|exact HK.out|apply KeepBut.set_|apply keep_drewN|apply keep_drew|apply keep_alloc)|exact HK.out)) hk (.inl rfl));have n1_:=Aside0.mk (hb);have n2_:=Aside0.mk (hi);clear HK;clear HB;clear HI0;have HK:=n0_;have HB:=n1_;have HI0:=n2_;clear n0_ n1_ n2_;(try clear hb);(try clear hb2);(try clear hk);(try clear hi);obtain ⟨ASz21_0,cSz21_0,HGz21,hgz21,HSz21_0⟩:=HI0.out;have hcz21_0:=cellS107_0 HGz21;have hcz21_1:=cellS107_1 HGz21;have hcz21_2:=cellS107_2 HGz21;have hfz21_1:=blk_frozen HGz21 1;have hfz21_2:=blk_frozen HGz21 2;clear HGz21 hgz21)|((with_reducible refine gate_callee (f:=63) rfl ?_);refine goesL_ (some 32) rfl rfl Tryd.func63 (by kernel_rfl) rfl #[.pointer (some ⟨g,0,none⟩),.int .i64 s0_1,.int .i64 23] rfl (by (try simp only [List.map_toArray,List.map_cons,List.map_nil]);first|done|rfl|(simp only [List.length_drop,List.length_take];rfl)) ?_;(with_reducible refine (pack_Reader_fail.calls g s0_0 t499 t500 s0_1 23 t505 t506 w0 _ ?side1 ?side2 A18.out).mono ?_);(case side1 => repeat (first|(with_reducible first|exact HI0.out|apply IsS107.alloc|apply IsS107.drewN|apply IsS107.drew|apply IsS107.set_1|apply IsS107.set_2)|exact HI0.out));(case side2 => repeat (first|(with_reducible first|exact HB.out|apply below_alloc|apply pw_below_drewN|apply below_drew1|refine below_set ?_ (IsS107.ge HI0.out))|exact HB.out));rintro e w22 ⟨rfl,hi,hb,hk⟩;refine ⟨_,rfl,?_⟩;have n0_:=Aside0.mk (KeepBut.trans (by repeat (first|(with_reducible first|exact HK.out|apply KeepBut.set_|apply keep_drewN|apply keep_drew|apply keep_alloc)|exact HK.out)) hk (.inl rfl));have n1_:=Aside0.mk (hb);have n2_:=Aside0.mk (hi);clear HK;clear HB;clear HI0;have HK:=n0_;have HB:=n1_;have HI0:=n2_;clear n0_ n1_ n2_;(try clear hb);(try clear hb2);(try clear hk);(try clear hi)))
 go_ret
 exact ⟨by first|rfl|(simp [errW_none,errW_some] <;> rfl)|(simp [*,errW_none,errW_some] <;> rfl),by repeat (first|(with_reducible first|exact HI0.out|apply IsS107.alloc|apply IsS107.drewN|apply IsS107.drew|apply IsS107.set_1|apply IsS107.set_2)|exact HI0.out),by repeat (first|(with_reducible first|exact HB.out|apply below_alloc|apply pw_below_drewN|apply below_drew1|refine below_set ?_ (IsS107.ge HI0.out))|exact HB.out),by repeat (first|(with_reducible first|exact HK.out|apply KeepBut.set_|apply keep_drewN|apply keep_drew|apply keep_alloc)|exact HK.out)⟩
end Go.Proofs.YtniolbolfclhkaaDoor.Q
namespace Go.Proofs.YtniolbolfclhkaaDoor.Q
open Go.RowKit Go.Proofs.YtniolbolfclhkaaDoorW.PrintWords Go.Proofs.YtniolbolfclhkaaDoorW.PrintLast Go.Proofs.YtniolbolfclhkaaDoorW.PrintMore
attribute [local go_sem] max2_int min2_int max_two min_two max_three min_three max_four min_four   -- for this text's walks alone
set_option linter.unusedVariables false
set_option linter.unusedSimpArgs false
def pack_Reader_End.f (s0_0 : List Int) (s0_1 : Int) (s0_2 : Int) : Option (Int × Int × Int) := if s0_2 = 0 then ((pack_Reader_Left.f s0_0 s0_1 s0_2).bind fun bt507 => (if bt507.1 > 0 then (some (22, bt507.2.1, 22)) else (some (bt507.2.2, bt507.2.1, bt507.2.2)))) else (some (s0_2, s0_1, s0_2))
set_option maxHeartbeats 8000000 in
set_option maxRecDepth 100000 in
theorem pack_Reader_End.calls (g : Nat) (s0_0 : List Int) (s0_1 : Int) (s0_2 : Int) (r1 : Int) (r2 : Int) (r3 : Int) (w0 w : World) (hI : IsS107 w0 w g s0_0 s0_1 s0_2) (hB : Below w0.heap.size w0 w) (h : pack_Reader_End.f s0_0 s0_1 s0_2 = some (r1, r2, r3)) :
  Calls Tryd.prog 43 #[.pointer (some ⟨g,0,none⟩)] w fun e w' => e = .returned (.int .i64 r1) ∧ IsS107 w0 w' g s0_0 r2 r3 ∧ Below w0.heap.size w0 w' ∧ KeepBut w w' g none:=by
 have HI0:=Aside0.mk hI
 have HK:=Aside0.mk (KeepBut.refl w g none)
 have HL:=Aside0.mk hB.size
 clear hI
 have HW0:=Aside0.mk hB.size
 have HB:=Aside0.mk hB
 clear hB
 have H : (if s0_2 = 0 then ((pack_Reader_Left.f s0_0 s0_1 s0_2).bind fun bt507 => (if bt507.1 > 0 then (some (22,bt507.2.1,22)) else (some (bt507.2.2,bt507.2.1,bt507.2.2)))) else (some (s0_2,s0_1,s0_2))) = some (r1,r2,r3):=h
 clear h
 by_cases c2 : s0_2 = 0
 rotate_left
 ·rw [if_neg c2] at H
  have c2b0 : (s0_2 == 0) = false:=beq_eq_false_iff_ne.mpr c2
  have c2b1 : (s0_2 != 0) = true:=bne_iff_ne.mpr c2
  simp only [Option.some.injEq,Prod.mk.injEq] at H
  obtain ⟨rfl,rfl,rfl⟩:=H
  obtain ⟨ASz11_0,cSz11_0,HGz11,hgz11,HSz11_0⟩:=HI0.out
  have hcz11_0:=cellS107_0 HGz11
  have hcz11_1:=cellS107_1 HGz11
  have hcz11_2:=cellS107_2 HGz11
  have hfz11_1:=blk_frozen HGz11 1
  have hfz11_2:=blk_frozen HGz11 2
  clear HGz11 hgz11
  go_enter Tryd.func43,Tryd.ntmps43
  go_wp2
  go_ret
  exact ⟨by first|rfl|(simp [errW_none,errW_some] <;> rfl)|(simp [*,errW_none,errW_some] <;> rfl),by repeat (first|(with_reducible first|exact HI0.out|apply IsS107.alloc|apply IsS107.drewN|apply IsS107.drew|apply IsS107.set_1|apply IsS107.set_2)|exact HI0.out),by repeat (first|(with_reducible first|exact HB.out|apply below_alloc|apply pw_below_drewN|apply below_drew1|refine below_set ?_ (IsS107.ge HI0.out))|exact HB.out),by repeat (first|(with_reducible first|exact HK.out|apply KeepBut.set_|apply keep_drewN|apply keep_drew|apply keep_alloc)|exact HK.out)⟩
 rw [if_pos c2] at H
 have c2b0 : (s0_2 == 0) = true:=beq_iff_eq.mpr c2
 have c2b1 : (s0_2 != 0) = false:=bne_eq_false_iff_eq.mpr c2
 clear c2
 replace H:=Option.bind_eq_some_iff.mp H
 obtain ⟨⟨t507,t508,t509⟩,A30,H⟩:=H
 replace H : (if t507 > 0 then (some (22,t508,22)) else (some (t509,t508,t509))) = some (r1,r2,r3):=H
 have A3:=Aside0.mk A30
 clear A30
 by_cases c4 : t507 > 0
 ·rw [if_pos c4] at H
  have c4b0 : decide (0 < t507) = true:=decide_eq_true c4
  clear c4
  simp only [Option.some.injEq,Prod.mk.injEq] at H
  obtain ⟨rfl,rfl,rfl⟩:=H
  obtain ⟨ASz5_0,cSz5_0,HGz5,hgz5,HSz5_0⟩:=HI0.out
  have hcz5_0:=cellS107_0 HGz5
  have hcz5_1:=cellS107_1 HGz5
  have hcz5_2:=cellS107_2 HGz5
  have hfz5_1:=blk_frozen HGz5 1
  have hfz5_2:=blk_frozen HGz5 2
  clear HGz5 hgz5
  go_enter Tryd.func43,Tryd.ntmps43
  go_wp2_with (first|(go_at_call 64;(with_reducible refine (pack_Reader_Left.calls g s0_0 s0_1 s0_2 t507 t508 t509 w0 _ ?side1 ?side2 A3.out).mono ?_);(case side1 => repeat (first|(with_reducible first|exact HI0.out|apply IsS107.alloc|apply IsS107.drewN|apply IsS107.drew|apply IsS107.set_1|apply IsS107.set_2)|exact HI0.out));(case side2 => repeat (first|(with_reducible first|exact HB.out|apply below_alloc|apply pw_below_drewN|apply below_drew1|refine below_set ?_ (IsS107.ge HI0.out))|exact HB.out));rintro e w6 ⟨rfl,hi,hb,hk⟩;have n0_:=Aside0.mk (KeepBut.trans (by repeat (first|(with_reducible first|exact HK.out|apply KeepBut.set_|apply keep_drewN|apply keep_drew|apply keep_alloc)|exact HK.out)) hk (.inl rfl));have n1_:=Aside0.mk (hb);have n2_:=Aside0.mk (hi);clear HK;clear HB;clear HI0;have HK:=n0_;have HB:=n1_;have HI0:=n2_;clear n0_ n1_ n2_;(try clear hb);(try clear hb2);(try clear hk);(try clear hi);obtain ⟨ASz7_0,cSz7_0,HGz7,hgz7,HSz7_0⟩:=HI0.out;have hcz7_0:=cellS107_0 HGz7;have hcz7_1:=cellS107_1 HGz7;have hcz7_2:=cellS107_2 HGz7;have hfz7_1:=blk_frozen HGz7 1;have hfz7_2:=blk_frozen HGz7 2;clear HGz7 hgz7))
  go_ret
  exact ⟨by first|rfl|(simp [errW_none,errW_some] <;> rfl)|(simp [*,errW_none,errW_some] <;> rfl),by repeat (first|(with_reducible first|exact HI0.out|apply IsS107.alloc|apply IsS107.drewN|apply IsS107.drew|apply IsS107.set_1|apply IsS107.set_2)|exact HI0.out),by repeat (first|(with_reducible first|exact HB.out|apply below_alloc|apply pw_below_drewN|apply below_drew1|refine below_set ?_ (IsS107.ge HI0.out))|exact HB.out),by repeat (first|(with_reducible first|exact HK.out|apply KeepBut.set_|apply keep_drewN|apply keep_drew|apply keep_alloc)|exact HK.out)⟩
 rw [if_neg c4] at H
 have c4b0 : decide (0 < t507) = false:=decide_eq_false c4
 clear c4
 simp only [Option.some.injEq,Prod.mk.injEq] at H
 obtain ⟨rfl,rfl,rfl⟩:=H
 obtain ⟨ASz8_0,cSz8_0,HGz8,hgz8,HSz8_0⟩:=HI0.out
 have hcz8_0:=cellS107_0 HGz8
 have hcz8_1:=cellS107_1 HGz8
 have hcz8_2:=cellS107_2 HGz8
 have hfz8_1:=blk_frozen HGz8 1
 have hfz8_2:=blk_frozen HGz8 2
 clear HGz8 hgz8
 go_enter Tryd.func43,Tryd.ntmps43
 go_wp2_with (first|(go_at_call 64;(with_reducible refine (pack_Reader_Left.calls g s0_0 s0_1 s0_2 t507 t508 t509 w0 _ ?side1 ?side2 A3.out).mono ?_);(case side1 => repeat (first|(with_reducible first|exact HI0.out|apply IsS107.alloc|apply IsS107.drewN|apply IsS107.drew|apply IsS107.set_1|apply IsS107.set_2)|exact HI0.out));(case side2 => repeat (first|(with_reducible first|exact HB.out|apply below_alloc|apply pw_below_drewN|apply below_drew1|refine below_set ?_ (IsS107.ge HI0.out))|exact HB.out));rintro e w9 ⟨rfl,hi,hb,hk⟩;have n0_:=Aside0.mk (KeepBut.trans (by repeat (first|(with_reducible first|exact HK.out|apply KeepBut.set_|apply keep_drewN|apply keep_drew|apply keep_alloc)|exact HK.out)) hk (.inl rfl));have n1_:=Aside0.mk (hb);have n2_:=Aside0.mk (hi);clear HK;clear HB;clear HI0;have HK:=n0_;have HB:=n1_;have HI0:=n2_;clear n0_ n1_ n2_;(try clear hb);(try clear hb2);(try clear hk);(try clear hi);obtain ⟨ASz10_0,cSz10_0,HGz10,hgz10,HSz10_0⟩:=HI0.out;have hcz10_0:=cellS107_0 HGz10;have hcz10_1:=cellS107_1 HGz10;have hcz10_2:=cellS107_2 HGz10;have hfz10_1:=blk_frozen HGz10 1;have hfz10_2:=blk_frozen HGz10 2;clear HGz10 hgz10))
 go_ret
 exact ⟨by first|rfl|(simp [errW_none,errW_some] <;> rfl)|(simp [*,errW_none,errW_some] <;> rfl),by repeat (first|(with_reducible first|exact HI0.out|apply IsS107.alloc|apply IsS107.drewN|apply IsS107.drew|apply IsS107.set_1|apply IsS107.set_2)|exact HI0.out),by repeat (first|(with_reducible first|exact HB.out|apply below_alloc|apply pw_below_drewN|apply below_drew1|refine below_set ?_ (IsS107.ge HI0.out))|exact HB.out),by repeat (first|(with_reducible first|exact HK.out|apply KeepBut.set_|apply keep_drewN|apply keep_drew|apply keep_alloc)|exact HK.out)⟩
end Go.Proofs.YtniolbolfclhkaaDoor.Q
namespace Go.Proofs.YtniolbolfclhkaaDoor.Q
open Go.RowKit Go.Proofs.YtniolbolfclhkaaDoorW.PrintWords Go.Proofs.YtniolbolfclhkaaDoorW.PrintLast Go.Proofs.YtniolbolfclhkaaDoorW.PrintMore
attribute [local go_sem] max2_int min2_int max_two min_two max_three min_three max_four min_four   -- for this text's walks alone
set_option linter.unusedVariables false
set_option linter.unusedSimpArgs false
def object_number.f (k : Nat) (s0_0 : List Int) (s0_1 : Int) (s0_2 : Int) : Option (Int × Int × Int) := (pack_Reader_Uint.f k s0_0 s0_1 s0_2).bind fun bt510 => (if bt510.1 > 9223372036854775807 then (some ((-1), bt510.2.1, bt510.2.2)) else (some (wrap64 (bt510.1), bt510.2.1, bt510.2.2)))
theorem object_number.mono : ∀ a0 a1 a2 k, LeO (object_number.f k a0 a1 a2) (object_number.f (k + 1) a0 a1 a2) := by
 intro a0 a1 a2 k
 unfold object_number.f
 repeat' first
  |(with_reducible exact pack_Reader_Uint.mono _ _ _ _)
  |(with_reducible exact LeO.refl _)
  |(with_reducible exact LeO.none _)
  |(with_reducible refine LeO.ite ?_ ?_)
  |(with_reducible refine LeO.bind ?_ (fun _ => ?_))
  |exact pack_Reader_Uint.mono _ _ _ _
  |exact LeO.none _
  |refine LeO.ite ?_ ?_
  |refine LeO.bind ?_ (fun _ => ?_)
set_option maxHeartbeats 8000000 in
set_option maxRecDepth 100000 in
theorem object_number.calls (k : Nat) (g : Nat) (s0_0 : List Int) (s0_1 : Int) (s0_2 : Int) (r1 : Int) (r2 : Int) (r3 : Int) (w0 w : World) (hI : IsS107 w0 w g s0_0 s0_1 s0_2) (hB : Below w0.heap.size w0 w) (h : object_number.f k s0_0 s0_1 s0_2 = some (r1, r2, r3)) :
  Calls Tryd.prog 41 #[.pointer (some ⟨g,0,none⟩)] w fun e w' => e = .returned (.int .i64 r1) ∧ IsS107 w0 w' g s0_0 r2 r3 ∧ Below w0.heap.size w0 w' ∧ KeepBut w w' g none:=by
 have HI0:=Aside0.mk hI
 have HK:=Aside0.mk (KeepBut.refl w g none)
 have HL:=Aside0.mk hB.size
 clear hI
 have HW0:=Aside0.mk hB.size
 have HB:=Aside0.mk hB
 clear hB
 have H : ((pack_Reader_Uint.f k s0_0 s0_1 s0_2).bind fun bt510 => (if bt510.1 > 9223372036854775807 then (some ((-1),bt510.2.1,bt510.2.2)) else (some (wrap64 (bt510.1),bt510.2.1,bt510.2.2)))) = some (r1,r2,r3):=h
 clear h
 replace H:=Option.bind_eq_some_iff.mp H
 obtain ⟨⟨t510,t511,t512⟩,A20,H⟩:=H
 replace H : (if t510 > 9223372036854775807 then (some ((-1),t511,t512)) else (some (wrap64 (t510),t511,t512))) = some (r1,r2,r3):=H
 have A2:=Aside0.mk A20
 clear A20
 by_cases c3 : t510 > 9223372036854775807
 ·rw [if_pos c3] at H
  have c3b0 : decide (9223372036854775807 < t510) = true:=decide_eq_true c3
  clear c3
  simp only [Option.some.injEq,Prod.mk.injEq] at H
  obtain ⟨rfl,rfl,rfl⟩:=H
  go_enter Tryd.func41,Tryd.ntmps41
  go_wp2_with (first|((with_reducible refine gate_callee (f:=62) rfl ?_);refine goesL_ (some 5) rfl rfl Tryd.func62 (by kernel_rfl) rfl #[.pointer (some ⟨g,0,none⟩)] rfl (by (try simp only [List.map_toArray,List.map_cons,List.map_nil]);first|done|rfl|(simp only [List.length_drop,List.length_take];rfl)) ?_;(with_reducible refine (pack_Reader_Uint.calls k g s0_0 s0_1 s0_2 t510 t511 t512 w0 _ ?side1 ?side2 A2.out).mono ?_);(case side1 => repeat (first|(with_reducible first|exact HI0.out|apply IsS107.alloc|apply IsS107.drewN|apply IsS107.drew|apply IsS107.set_1|apply IsS107.set_2)|exact HI0.out));(case side2 => repeat (first|(with_reducible first|exact HB.out|apply below_alloc|apply pw_below_drewN|apply below_drew1|refine below_set ?_ (IsS107.ge HI0.out))|exact HB.out));rintro e w4 ⟨rfl,hi,hb,hk⟩;refine ⟨_,rfl,?_⟩;have n0_:=Aside0.mk (KeepBut.trans (by repeat (first|(with_reducible first|exact HK.out|apply KeepBut.set_|apply keep_drewN|apply keep_drew|apply keep_alloc)|exact HK.out)) hk (.inl rfl));have n1_:=Aside0.mk (hb);have n2_:=Aside0.mk (hi);clear HK;clear HB;clear HI0;have HK:=n0_;have HB:=n1_;have HI0:=n2_;clear n0_ n1_ n2_;(try clear hb);(try clear hb2);(try clear hk);(try clear hi)))
  go_ret
  exact ⟨by first|rfl|(simp [errW_none,errW_some] <;> rfl)|(simp [*,errW_none,errW_some] <;> rfl),by repeat (first|(with_reducible first|exact HI0.out|apply IsS107.alloc|apply IsS107.drewN|apply IsS107.drew|apply IsS107.set_1|apply IsS107.set_2)|exact HI0.out),by repeat (first|(with_reducible first|exact HB.out|apply below_alloc|apply pw_below_drewN|apply below_drew1|refine below_set ?_ (IsS107.ge HI0.out))|exact HB.out),by repeat (first|(with_reducible first|exact HK.out|apply KeepBut.set_|apply keep_drewN|apply keep_drew|apply keep_alloc)|exact HK.out)⟩
 ·rw [if_neg c3] at H
  have c3b0 : decide (9223372036854775807 < t510) = false:=decide_eq_false c3
  clear c3
  simp only [Option.some.injEq,Prod.mk.injEq] at H
  obtain ⟨rfl,rfl,rfl⟩:=H
  go_enter Tryd.func41,Tryd.ntmps41
  go_wp2_with (first|((with_reducible refine gate_callee (f:=62) rfl ?_);refine goesL_ (some 5) rfl rfl Tryd.func62 (by kernel_rfl) rfl #[.pointer (some ⟨g,0,none⟩)] rfl (by (try simp only [List.map_toArray,List.map_cons,List.map_nil]);first|done|rfl|(simp only [List.length_drop,List.length_take];rfl)) ?_;(with_reducible refine (pack_Reader_Uint.calls k g s0_0 s0_1 s0_2 t510 t511 t512 w0 _ ?side1 ?side2 A2.out).mono ?_);(case side1 => repeat (first|(with_reducible first|exact HI0.out|apply IsS107.alloc|apply IsS107.drewN|apply IsS107.drew|apply IsS107.set_1|apply IsS107.set_2)|exact HI0.out));(case side2 => repeat (first|(with_reducible first|exact HB.out|apply below_alloc|apply pw_below_drewN|apply below_drew1|refine below_set ?_ (IsS107.ge HI0.out))|exact HB.out));rintro e w5 ⟨rfl,hi,hb,hk⟩;refine ⟨_,rfl,?_⟩;have n0_:=Aside0.mk (KeepBut.trans (by repeat (first|(with_reducible first|exact HK.out|apply KeepBut.set_|apply keep_drewN|apply keep_drew|apply keep_alloc)|exact HK.out)) hk (.inl rfl));have n1_:=Aside0.mk (hb);have n2_:=Aside0.mk (hi);clear HK;clear HB;clear HI0;have HK:=n0_;have HB:=n1_;have HI0:=n2_;clear n0_ n1_ n2_;(try clear hb);(try clear hb2);(try clear hk);(try clear hi)))
  go_ret
  exact ⟨by first|rfl|(simp [errW_none,errW_some] <;> rfl)|(simp [*,errW_none,errW_some] <;> rfl),by repeat (first|(with_reducible first|exact HI0.out|apply IsS107.alloc|apply IsS107.drewN|apply IsS107.drew|apply IsS107.set_1|apply IsS107.set_2)|exact HI0.out),by repeat (first|(with_reducible first|exact HB.out|apply below_alloc|apply pw_below_drewN|apply below_drew1|refine below_set ?_ (IsS107.ge HI0.out))|exact HB.out),by repeat (first|(with_reducible first|exact HK.out|apply KeepBut.set_|apply keep_drewN|apply keep_drew|apply keep_alloc)|exact HK.out)⟩
end Go.Proofs.YtniolbolfclhkaaDoor.Q
namespace Go.Proofs.YtniolbolfclhkaaDoor.Q
open Go.RowKit Go.Proofs.YtniolbolfclhkaaDoorW.PrintWords Go.Proofs.YtniolbolfclhkaaDoorW.PrintLast Go.Proofs.YtniolbolfclhkaaDoorW.PrintMore Go.Proofs.YtniolbolfclhkaaDoor.Pl
set_option linter.unusedVariables false
set_option linter.unusedSimpArgs false
structure RdTo (w0 : World) (g : Nat) (inp : List Int) (st : RS) (w : World) : Prop where
  ex : ∃ pos err, IsS107 w0 w g inp pos err ∧ RSt inp pos err st
  below : Below w0.heap.size w0 w
structure RdStep (w0 : World) (g : Nat) (inp : List Int) (st : RS) (w w' : World) : Prop where
  rd : RdTo w0 g inp st w'
  keep : KeepBut w w' g none
theorem left_f {inp : List Int} {pos err : Int} {l : List Int} (h : RSt inp pos err (some l)) (hl : inp.length < 140737488355328) : wrap64 ((inp.length : Int) - pos) = (l.length : Int) := by
  obtain ⟨rfl, h0, h1, h2⟩ := h
  rw [← h2, List.length_drop]
  unfold wrap64
  omega
theorem byte_f {inp : List Int} {pos err : Int} {st : RS} (h : RSt inp pos err st) (hl : inp.length < 140737488355328) :
    ∃ pos' err', pack_Reader_Byte.f inp pos err = some ((rByte st).1, pos', err') ∧ RSt inp pos' err' (rByte st).2 := by
  unfold pack_Reader_Byte.f
  cases st with
  | none => exact ⟨pos, err, by rw [if_neg h.1]; rfl, h⟩
  | some l =>
    have hleft := left_f h hl
    obtain ⟨rfl, h0, h1, h2⟩ := h
    rw [if_pos rfl]
    unfold pack_Reader_Left.f
    simp only [Option.bind_some, hleft]
    cases l with
    | nil => exact ⟨pos, 20, by rw [if_pos (by simp)]; rfl, by omega, h0, h1⟩
    | cons b r =>
      obtain ⟨p, rfl⟩ := Int.eq_ofNat_of_zero_le h0
      rw [Int.toNat_natCast] at h2
      obtain ⟨g1, g2, g3⟩ := rd_drop inp p b r h2
      have hw1 : wrap64 ((p : Int) + 1) = ((p + 1 : Nat) : Int) := by unfold wrap64; omega
      have hw2 : wrap64 (((p + 1 : Nat) : Int) - 1) = (p : Int) := by unfold wrap64; omega
      refine ⟨((p + 1 : Nat) : Int), 0, ?_, rfl, by omega, by omega, ?_⟩
      · rw [if_neg (by simp only [List.length_cons]; omega), hw1, hw2, if_pos (by omega), if_pos (by omega), g2]
        rfl
      · rw [Int.toNat_natCast, g3]
theorem count_f {inp : List Int} {pos err : Int} {st : RS} (most : Nat) (hm : most ≤ 8192) (h : RSt inp pos err st) (hb : Bytes inp) (hl : inp.length < 140737488355328) :
    ∃ pos' err', pack_Reader_Count.f 11 inp pos err (most : Int) = some (((rCount most st).1 : Int), pos', err') ∧ RSt inp pos' err' (rCount most st).2 := by
  obtain ⟨p1, e1, h1, h2⟩ := uint_f h hb hl
  have hbd := h.bounds
  unfold pack_Reader_Count.f rCount
  rw [h1]
  simp only [Option.bind_some]
  have hwm : IntKind.u64.wrap (most : Int) = (most : Int) := by rw [IntKind.wrap_u64]; omega
  rcases hu : rUint st with ⟨n, st'⟩
  rw [hu] at h2
  cases st' with
  | none =>
    rw [if_neg h2.1]
    refine ⟨p1, e1, ?_, h2⟩
    rfl
  | some r =>
    rw [if_pos h2.1, if_neg (by omega), hwm]
    by_cases hn : n ≤ most ∧ n ≤ 4096
    · simp only [if_pos hn]
      rw [if_neg (by omega), if_neg (by omega)]
      refine ⟨p1, e1, ?_, h2⟩
      rw [show wrap64 ((n : Nat) : Int) = (n : Int) by unfold wrap64; omega]
    · simp only [if_neg hn]
      unfold pack_Reader_fail.f
      by_cases h3 : n ≤ most
      · rw [if_neg (by omega), if_pos (by omega)]
        exact ⟨pos, 23, rfl, by omega, hbd.1, hbd.2⟩
      · rw [if_pos (by omega)]
        exact ⟨pos, 23, rfl, by omega, hbd.1, hbd.2⟩
def rNum (st : RS) : Int × RS := (if (rUint st).1 ≤ 9223372036854775807 then ((rUint st).1 : Int) else -1, (rUint st).2)
theorem number_rf {inp : List Int} {pos err : Int} {st : RS} (h : RSt inp pos err st) (hb : Bytes inp) (hl : inp.length < 140737488355328) :
    ∃ pos' err', object_number.f 11 inp pos err = some ((rNum st).1, pos', err') ∧ RSt inp pos' err' (rNum st).2 := by
  obtain ⟨p1, e1, h1, h2⟩ := uint_f h hb hl
  unfold object_number.f rNum
  rw [h1]
  simp only [Option.bind_some]
  by_cases hn : (rUint st).1 ≤ 9223372036854775807
  · rw [if_neg (by omega), if_pos hn]
    exact ⟨p1, e1, by rw [show wrap64 (((rUint st).1 : Nat) : Int) = ((rUint st).1 : Int) by unfold wrap64; omega], h2⟩
  · rw [if_pos (by omega), if_neg hn]
    exact ⟨p1, e1, rfl, h2⟩
theorem end_f {inp : List Int} {pos err : Int} {st : RS} (h : RSt inp pos err st) (hl : inp.length < 140737488355328) :
    ∃ r pos' err', pack_Reader_End.f inp pos err = some (r, pos', err') ∧ (r = 0 ↔ st = some []) := by
  unfold pack_Reader_End.f
  cases st with
  | none => exact ⟨err, pos, err, by rw [if_neg h.1], ⟨fun e => absurd e h.1, fun e => by cases e⟩⟩
  | some l =>
    have hleft := left_f h hl
    rw [if_pos h.1]
    unfold pack_Reader_Left.f
    simp only [Option.bind_some, hleft]
    cases l with
    | nil => exact ⟨err, pos, err, by rw [if_neg (by simp)], ⟨fun _ => rfl, fun _ => h.1⟩⟩
    | cons b r => exact ⟨22, pos, 22, by rw [if_pos (by simp only [List.length_cons]; omega)], ⟨fun e => by omega, fun e => by injection e with e; cases e⟩⟩
section
variable {w0 w : World} {g : Nat} {inp : List Int} {st : RS}
theorem byte_rd (h : RdTo w0 g inp st w) (hl : inp.length < 140737488355328) :
    Calls Tryd.prog 40 #[.pointer (some ⟨g, 0, none⟩)] w fun e w' => e = .returned (.int .u8 (rByte st).1) ∧ RdStep w0 g inp (rByte st).2 w w' := by
  obtain ⟨pos, err, hI, hS⟩ := h.ex
  obtain ⟨p1, e1, h1, h2⟩ := byte_f hS hl
  refine (pack_Reader_Byte.calls g inp pos err _ p1 e1 w0 w hI h.below h1).mono ?_
  rintro e w' ⟨rfl, k1, k2, k3⟩
  exact ⟨rfl, ⟨⟨p1, e1, k1, h2⟩, k2⟩, k3⟩
theorem count_rd (most : Nat) (hm : most ≤ 8192) (h : RdTo w0 g inp st w) (hb : Bytes inp) (hl : inp.length < 140737488355328) :
    Calls Tryd.prog 39 #[.pointer (some ⟨g, 0, none⟩), .int .i64 (most : Int)] w fun e w' => e = .returned (.int .i64 ((rCount most st).1 : Int)) ∧ RdStep w0 g inp (rCount most st).2 w w' := by
  obtain ⟨pos, err, hI, hS⟩ := h.ex
  obtain ⟨p1, e1, h1, h2⟩ := count_f most hm hS hb hl
  refine (pack_Reader_Count.calls 11 g inp pos err (most : Int) _ p1 e1 w0 w hI h.below h1).mono ?_
  rintro e w' ⟨rfl, k1, k2, k3⟩
  exact ⟨rfl, ⟨⟨p1, e1, k1, h2⟩, k2⟩, k3⟩
theorem number_rd (h : RdTo w0 g inp st w) (hb : Bytes inp) (hl : inp.length < 140737488355328) :
    Calls Tryd.prog 41 #[.pointer (some ⟨g, 0, none⟩)] w fun e w' => e = .returned (.int .i64 (rNum st).1) ∧ RdStep w0 g inp (rNum st).2 w w' := by
  obtain ⟨pos, err, hI, hS⟩ := h.ex
  obtain ⟨p1, e1, h1, h2⟩ := number_rf hS hb hl
  refine (object_number.calls 11 g inp pos err _ p1 e1 w0 w hI h.below h1).mono ?_
  rintro e w' ⟨rfl, k1, k2, k3⟩
  exact ⟨rfl, ⟨⟨p1, e1, k1, h2⟩, k2⟩, k3⟩
theorem end_rd (h : RdTo w0 g inp st w) (hl : inp.length < 140737488355328) :
    Calls Tryd.prog 43 #[.pointer (some ⟨g, 0, none⟩)] w fun e w' => ∃ r : Int, e = .returned (.int .i64 r) ∧ (r = 0 ↔ st = some []) ∧ KeepBut w w' g none ∧ Below w0.heap.size w0 w' := by
  obtain ⟨pos, err, hI, hS⟩ := h.ex
  obtain ⟨r, p1, e1, h1, h2⟩ := end_f hS hl
  refine (pack_Reader_End.calls g inp pos err r p1 e1 w0 w hI h.below h1).mono ?_
  rintro e w' ⟨rfl, k1, k2, k3⟩
  exact ⟨r, rfl, h2, k3, k2⟩
end
end Go.Proofs.YtniolbolfclhkaaDoor.Q
namespace Go.Proofs.YtniolbolfclhkaaDoor.Q
open Go.RowKit Go.Proofs.YtniolbolfclhkaaDoorW.PrintWords Go.Proofs.YtniolbolfclhkaaDoorW.PrintLast Go.Proofs.YtniolbolfclhkaaDoorW.PrintMore Go.Proofs.YtniolbolfclhkaaDoor.Pl
set_option linter.unusedVariables false
set_option linter.unusedSimpArgs false
theorem info_parts_ {P : Program} {t : TypeId} {z : Option Value} {s b : Nat} (h : (P.info? t).map (fun i => (i.zero, i.size, i.bytes)) = some (z, s, b)) : ∃ i, P.info? t = some i ∧ i.zero = z ∧ i.size = s ∧ i.bytes = b := by
  obtain ⟨i, hi, hz⟩ := Option.map_eq_some_iff.1 h
  simp only [Prod.mk.injEq] at hz
  exact ⟨i, hi, hz.1, hz.2.1, hz.2.2⟩
def rText (most : Nat) (st : RS) : ByteArray × RS := (strOfNums (rTextL most st).1, (rTextL most st).2)
theorem fail_rd {w0 w : World} {g : Nat} {inp : List Int} {pos err : Int} (hI : IsS107 w0 w g inp pos err) (hB : Below w0.heap.size w0 w) (a e : Int) :
    Calls Tryd.prog 63 #[.pointer (some ⟨g, 0, none⟩), .int .i64 a, .int .i64 e] w fun r w' => r = .returned (.tuple #[]) ∧ IsS107 w0 w' g inp a e ∧ Below w0.heap.size w0 w' ∧ KeepBut w w' g none :=
  pack_Reader_fail.calls g inp pos err a e a e w0 w hI hB rfl
theorem left_rd {w0 w : World} {g : Nat} {inp : List Int} {pos err : Int} (hI : IsS107 w0 w g inp pos err) (hB : Below w0.heap.size w0 w) :
    Calls Tryd.prog 64 #[.pointer (some ⟨g, 0, none⟩)] w fun r w' => r = .returned (.int .i64 (wrap64 ((inp.length : Int) - pos))) ∧ IsS107 w0 w' g inp pos err ∧ Below w0.heap.size w0 w' ∧ KeepBut w w' g none :=
  pack_Reader_Left.calls g inp pos err _ pos err w0 w hI hB rfl
theorem isS_blk {w0 w : World} {g : Nat} {inp : List Int} {pos err : Int} (hI : IsS107 w0 w g inp pos err) : ∃ A c, w.heap[g]? = some (.cells #[.slice A inp.length c, .int .i64 pos, .int .i64 err] 107 (0, 0)) ∧ (w0.heap.size ≤ g ∧ inp.length ≤ c) ∧ Kd.C (Kd.int .u8) w0 A inp.length inp := hI
theorem keep_then {a b c : World} {g : Nat} (h : KeepBut a b g none) (k : KeepBut b c g none) : KeepBut a c g none := h.trans k (.inl rfl)
set_option maxHeartbeats 8000000 in
set_option maxRecDepth 100000 in
theorem text_rd {w0 w : World} {g : Nat} {inp : List Int} {st : RS} (most : Nat) (hm : most ≤ 1048576) (h : RdTo w0 g inp st w) (hb : Bytes inp) (hl : inp.length < 140737488355328) :
    Calls Tryd.prog 38 #[.pointer (some ⟨g, 0, none⟩), .int .i64 (most : Int)] w fun e w' => e = .returned (.string (rText most st).1) ∧ RdStep w0 g inp (rText most st).2 w w' := by
  obtain ⟨pos, err, hI, hS⟩ := h.ex
  obtain ⟨p1, e1, h1, h2⟩ := uint_f hS hb hl
  have hbd := hS.bounds
  have KU := Lib.hid (pack_Reader_Uint.calls 11 g inp pos err _ p1 e1 w0 w hI h.below h1)
  have HBD := Lib.hid hbd
  have HLN := Lib.hid hl
  obtain ⟨A, c, hblk, hge, hC⟩ := isS_blk hI
  have hc1_ := (blk_cell hblk 1).trans rfl
  have hwm : IntKind.u64.wrap (most : Int) = (most : Int) := by rw [IntKind.wrap_u64]; omega
  have m0 : decide ((most : Int) < 0) = false := decide_eq_false (by omega)
  clear h1 hI hblk hge hC hS hb hbd
  unfold rText rTextL
  rcases hu : rUint st with ⟨n, st'⟩
  rw [hu] at h2 KU
  simp only at h2 KU ⊢
  clear hu
  cases st' with
  | none =>
    have t1 : (e1 != 0) = true := by rw [bne_iff_ne]; exact h2.1
    have t2 : (e1 == 0) = false := beq_eq_false_iff_ne.2 h2.1
    have H2 := Lib.hid h2
    clear h2
    go_enter Tryd.func38, Tryd.ntmps38
    go_wp2_with (go_at_call 62; (with_reducible refine KU.out.mono ?_); rintro e w1 ⟨rfl, k1, k2, k3⟩; obtain ⟨A1, c1, hb1, hg1, hC1⟩ := isS_blk k1; have c2_ := (blk_cell hb1 2).trans rfl; have K1 := Lib.hid k1; have K2 := Lib.hid k2; have K3 := Lib.hid k3; clear k1 k2 k3 hb1 hg1 hC1)
    go_ret
    exact ⟨rfl, ⟨⟨_, _, K1.out, H2.out⟩, K2.out⟩, K3.out⟩
  | some r =>
    obtain ⟨rfl, h20, h21, h22⟩ := h2
    obtain ⟨p, rfl⟩ := Int.eq_ofNat_of_zero_le h20
    rw [Int.toNat_natCast] at h22
    have hrl : r.length = inp.length - p := by rw [← h22, List.length_drop]
    have H22 := Lib.hid h22
    have HRL := Lib.hid hrl
    have H21 := Lib.hid h21
    clear h22 h20
    by_cases hn1 : n ≤ most
    rotate_left
    · have t1 : decide ((most : Int) < (n : Int)) = true := decide_eq_true (by omega)
      have t2 : decide (most < n) = true := decide_eq_true (by omega)
      simp only [if_neg (show ¬ (n ≤ most ∧ n ≤ r.length) from fun x => hn1 x.1)]
      clear hn1 hrl h21
      go_enter Tryd.func38, Tryd.ntmps38
      go_wp2_with (first
        | (go_at_call 62; (with_reducible refine KU.out.mono ?_); rintro e w1 ⟨rfl, k1, k2, k3⟩; obtain ⟨A1, c1, hb1, hg1, hC1⟩ := isS_blk k1; have c2_ := (blk_cell hb1 2).trans rfl; have K1 := Lib.hid k1; have K2 := Lib.hid k2; have K3 := Lib.hid k3; clear k1 k2 k3 hb1 hg1 hC1)
        | (go_at_call 63; (with_reducible refine (fail_rd K1.out K2.out pos 23).mono ?_); rintro e w2 ⟨rfl, k4, k5, k6⟩; have K4 := Lib.hid k4; have K5 := Lib.hid k5; have K6 := Lib.hid (keep_then K3.out k6); clear k4 k5 k6))
      go_ret
      exact ⟨rfl, ⟨⟨_, _, K4.out, by decide, HBD.out.1, HBD.out.2⟩, K5.out⟩, K6.out⟩
    by_cases hn2 : n ≤ r.length
    rotate_left
    · have t1 : decide ((most : Int) < (n : Int)) = false := decide_eq_false (by omega)
      have t2 : decide (most < n) = false := decide_eq_false (by omega)
      have hleft : wrap64 ((inp.length : Int) - (p : Int)) = (r.length : Int) := by unfold wrap64; omega
      have hwl : IntKind.u64.wrap (r.length : Int) = (r.length : Int) := by rw [IntKind.wrap_u64]; omega
      have t3 : decide ((r.length : Int) < (n : Int)) = true := decide_eq_true (by omega)
      have t4 : decide (r.length < n) = true := decide_eq_true (by omega)
      simp only [if_neg (show ¬ (n ≤ most ∧ n ≤ r.length) from fun x => hn2 x.2)]
      have HLF := Lib.hid hleft
      clear hn1 hn2 hrl h21 hleft
      go_enter Tryd.func38, Tryd.ntmps38
      go_wp2_with (first
        | (go_at_call 62; (with_reducible refine KU.out.mono ?_); rintro e w1 ⟨rfl, k1, k2, k3⟩; obtain ⟨A1, c1, hb1, hg1, hC1⟩ := isS_blk k1; have c2_ := (blk_cell hb1 2).trans rfl; have K1 := Lib.hid k1; have K2 := Lib.hid k2; have K3 := Lib.hid k3; clear k1 k2 k3 hb1 hg1 hC1)
        | (go_at_call 64; (with_reducible refine (left_rd K1.out K2.out).mono ?_); rintro e w3 ⟨rfl, k4, k5, k6⟩; rw [HLF.out]; have K1b := Lib.hid k4; have K2b := Lib.hid k5; have K3b := Lib.hid (keep_then K3.out k6); clear k4 k5 k6)
        | (go_at_call 63; (with_reducible refine (fail_rd K1b.out K2b.out pos 20).mono ?_); rintro e w2 ⟨rfl, k4, k5, k6⟩; have K4 := Lib.hid k4; have K5 := Lib.hid k5; have K6 := Lib.hid (keep_then K3b.out k6); clear k4 k5 k6))
      go_ret
      exact ⟨rfl, ⟨⟨_, _, K4.out, by decide, HBD.out.1, HBD.out.2⟩, K5.out⟩, K6.out⟩
    · have t1 : decide ((most : Int) < (n : Int)) = false := decide_eq_false (by omega)
      have t2 : decide (most < n) = false := decide_eq_false (by omega)
      have hleft : wrap64 ((inp.length : Int) - (p : Int)) = (r.length : Int) := by unfold wrap64; omega
      have hwl : IntKind.u64.wrap (r.length : Int) = (r.length : Int) := by rw [IntKind.wrap_u64]; omega
      have t3 : decide ((r.length : Int) < (n : Int)) = false := decide_eq_false (by omega)
      have t4 : decide (r.length < n) = false := decide_eq_false (by omega)
      simp only [if_pos (show n ≤ most ∧ n ≤ r.length from ⟨hn1, hn2⟩)]
      have HLF := Lib.hid hleft
      have hwn : IntKind.i64.wrap (n : Int) = (n : Int) := by rw [IntKind.wrap_i64]; omega
      have hpn : (p : Int) + (n : Int) ≤ 9223372036854775807 := by omega
      have HNL := Lib.hid hn2
      clear hn1 hn2 hrl h21 hleft
      go_enter Tryd.func38, Tryd.ntmps38
      go_upto_region 12 with (first
        | (go_at_call 62; (with_reducible refine KU.out.mono ?_); rintro e w1 ⟨rfl, k1, k2, k3⟩; obtain ⟨A1, c1, hb1, hg1, hC1⟩ := isS_blk k1; have c2_ := (blk_cell hb1 2).trans rfl; have K1 := Lib.hid k1; have K2 := Lib.hid k2; have K3 := Lib.hid k3; clear k1 k2 k3 hb1 hg1 hC1)
        | (go_at_call 64; (with_reducible refine (left_rd K1.out K2.out).mono ?_); rintro e w3 ⟨rfl, k4, k5, k6⟩; rw [HLF.out]; obtain ⟨A1, c1, hb1, hg1, hC1⟩ := isS_blk k4; have c1_ := (blk_cell hb1 1).trans rfl; have f1_ := blk_frozen hb1 1; have K1b := Lib.hid k4; have K2b := Lib.hid k5; have K3b := Lib.hid (keep_then K3.out k6); have HBK := Lib.hid hb1; have HGE := Lib.hid hg1; have HC1 := Lib.hid hC1; clear k4 k5 k6 hb1 hg1 hC1))
      obtain ⟨q, hq⟩ : ∃ q : Nat, (q : Int) = (p : Int) + (n : Int) := ⟨p + n, by omega⟩
      rw [← hq]
      have HQ := Lib.hid (show q = p + n by omega)
      have I4 := Lib.hid (IsS107.set_1 K1b.out (q : Int))
      have B4 := Lib.hid (K2b.out.setCell (p := ⟨g, 1, none⟩) HGE.out.1 (.int .i64 (q : Int)))
      have K4 := Lib.hid (KeepBut.set_ K3b.out 1 (.int .i64 (q : Int)))
      have hblk := blk_put HBK.out 1 (.int .i64 (q : Int)) rfl
      have HB4 := Lib.hid hblk
      clear hblk hq c1_ c2_ f1_ hpn K1 K2 K3 K1b K2b K3b HBK
      generalize w3.setCell _ _ = W at I4 B4 K4 HB4 ⊢
      have x0 : W.cell? ⟨g, 0, none⟩ = some (.slice A1 inp.length c1) := (blk_cell HB4.out 0).trans rfl
      have x1 : W.cell? ⟨g, 1, none⟩ = some (.int .i64 (q : Int)) := (blk_cell HB4.out 1).trans rfl
      obtain ⟨i0, hi, hz0, hz1, hz2⟩ := info_parts_ info5
      have hq2 : q ≤ inp.length := by have := HQ.out; have := HRL.out; have := HNL.out; have := H21.out; omega
      have hcut := cut_mid (P := Tryd.prog) 51 5 .i64 .i64 Tryd.underlying51 hi 1 hz1 A1 inp.length c1 (p : Int) (q : Int) (by omega) (by have := HQ.out; omega) (by omega) HGE.out.2
      have hmid := Kd.C_mid (c := c1) (lo := p) (hi := q) (Kd.C_below HC1.out B4.out) (by have := HQ.out; omega) hq2 HGE.out.2
      have hml : ((inp.take q).drop p).length = q - p := by rw [List.length_drop, List.length_take]; omega
      rw [hml] at hmid
      simp only [Int.toNat_natCast, Nat.mul_one] at hcut
      have hconv : ∀ m, (convert 51 9 (.slice (if c1 = p then A1 else A1.map (·.add p)) (q - p) (c1 - p))).run Tryd.prog (W.drewN m) = .ok (.string (strOfNums ((inp.take q).drop p))) (W.drewN m) := fun m => by
        have h5 := Kd.C_drewN hmid m
        rw [show (Kd.int .u8).sz = 1 from rfl, Nat.mul_one] at h5
        exact Kd.C_string Tryd.underlying51 Tryd.underlying5 Tryd.underlying9 h5
      have hsub : wrap64 ((q : Int) - (n : Int)) = (p : Int) := by have := HQ.out; have := H21.out; have := HLN.out; unfold wrap64; omega
      have hsub2 : IntKind.i64.wrap ((q : Int) - (n : Int)) = (p : Int) := by rw [IntKind.wrap_i64]; have := HQ.out; have := H21.out; have := HLN.out; omega
      clear hmid hml hi hz0 hz1 hz2
      generalize (if c1 = p then A1 else A1.map (·.add p)) = AA at hcut hconv
      generalize q - p = dl at hcut hconv
      generalize c1 - p = dc at hcut hconv
      go_quiet (fail)
      go_wp2
      go_ret
      have hfin : (inp.take q).drop p = r.take n := by rw [List.drop_take, H22.out, HQ.out, Nat.add_sub_cancel_left]
      refine ⟨by rw [hfin]; rfl, ⟨⟨(q : Int), 0, IsS107.drewN I4.out _, rfl, by omega, by omega, ?_⟩, pw_below_drewN B4.out _⟩, K4.out⟩
      rw [Int.toNat_natCast, ← H22.out, List.drop_drop, HQ.out]
end Go.Proofs.YtniolbolfclhkaaDoor.Q
namespace Go.Proofs.YtniolbolfclhkaaDoor.Q
open Go.RowKit Go.Proofs.YtniolbolfclhkaaDoorW.PrintWords Go.Proofs.YtniolbolfclhkaaDoorW.PrintLast Go.Proofs.YtniolbolfclhkaaDoorW.PrintMore Go.Proofs.YtniolbolfclhkaaDoor.Pl
set_option linter.unusedVariables false
set_option linter.unusedSimpArgs false
def rMany {α : Type} (f : RS → α × RS) : Nat → RS → List α × RS
  | 0, st => ([], st)
  | n + 1, st => ((rMany f n st).1 ++ [(f (rMany f n st).2).1], (f (rMany f n st).2).2)
theorem rMany_len {α : Type} (f : RS → α × RS) (n : Nat) (st : RS) : (rMany f n st).1.length = n := by
  induction n with
  | zero => rfl
  | succ n ih => simp only [rMany, List.length_append, ih, List.length_singleton]
theorem rMany_mem {α : Type} (f : RS → α × RS) (n : Nat) (st : RS) : ∀ a ∈ (rMany f n st).1, ∃ st', a = (f st').1 := by
  induction n with
  | zero => intro a h; cases h
  | succ n ih =>
    intro a h
    simp only [rMany] at h
    rcases List.mem_append.1 h with h | h
    · exact ih a h
    · exact ⟨_, List.mem_singleton.1 h⟩
theorem rMany_snoc {α : Type} (f : RS → α × RS) (enc : α → List Int) : ∀ (n : Nat) (l : List α), l.length = n → (∀ a ∈ l, ∀ rest, f (some (enc a ++ rest)) = (a, some rest)) → ∀ rest, rMany f n (some (l.flatMap enc ++ rest)) = (l, some rest)
  | 0, l, hl, _, rest => by
    obtain rfl := List.eq_nil_of_length_eq_zero hl
    rfl
  | n + 1, l, hl, h, rest => by
    have hd : l = l.dropLast ++ [l.getLast (by intro e; rw [e] at hl; cases hl)] := (List.dropLast_concat_getLast _).symm
    generalize l.getLast _ = a at hd
    generalize l.dropLast = m at hd
    subst hd
    have hm : m.length = n := by rw [List.length_append, List.length_singleton] at hl; omega
    have ih := rMany_snoc f enc n m hm (fun x hx => h x (List.mem_append_left _ hx)) (enc a ++ rest)
    rw [List.flatMap_append, List.append_assoc]
    simp only [List.flatMap_cons, List.flatMap_nil, List.append_nil]
    simp only [rMany]
    rw [ih]
    simp only
    rw [h a (List.mem_append_right _ (List.mem_singleton.2 rfl))]
theorem rMany_of {α : Type} (f : RS → α × RS) (enc : α → List Int) (l : List α) (h : ∀ a ∈ l, ∀ rest, f (some (enc a ++ rest)) = (a, some rest)) (rest : List Int) : rMany f l.length (some (l.flatMap enc ++ rest)) = (l, some rest) := rMany_snoc f enc _ l rfl h rest
theorem str_bytes (s : ByteArray) : strOfNums (bytesOf s) = s := by
  refine ba_ext ?_
  show ((bytesOf s).map fun n => UInt8.ofNat n.toNat) = s.data.toList
  unfold bytesOf
  rw [List.map_map]
  conv => rhs; rw [← List.map_id s.data.toList]
  refine List.map_congr_left fun b _ => ?_
  simp
theorem rText_of {s : ByteArray} {most : Nat} (h : s.size ≤ most) (hm : most < 2 ^ 64) (rest : List Int) : rText most (some (textL s ++ rest)) = (s, some rest) := by
  unfold rText textL
  have hl : (bytesOf s).length = s.size := bytesOf_length s
  have := rTextL_of (s := bytesOf s) (most := most) (by omega) (by omega) rest
  rw [hl] at this
  rw [List.append_assoc, this, str_bytes]
theorem rNum_of {n : Nat} (h : n ≤ 9223372036854775807) (rest : List Int) : rNum (some (numL n ++ rest)) = ((n : Int), some rest) := by
  unfold rNum
  rw [rUint_of (by omega)]
  simp only
  rw [if_pos h]
def rAmt (st : RS) : Amt × RS := (⟨(rText 8192 st).1, (rNum (rText 8192 st).2).1⟩, (rNum (rText 8192 st).2).2)
def rAmts (st : RS) : List Amt × RS := rMany rAmt (rCount 16 st).1 (rCount 16 st).2
def rLab (st : RS) : Lab × RS := (⟨(rText 8192 st).1, (rText 8192 (rText 8192 st).2).1⟩, (rText 8192 (rText 8192 st).2).2)
def rPart (st : RS) : Prt × RS := (⟨(rText 8192 st).1, (rAmts (rText 8192 st).2).1, (rAmts (rAmts (rText 8192 st).2).2).1⟩, (rAmts (rAmts (rText 8192 st).2).2).2)
theorem rAmt_of {a : Amt} (h : a.f0.size ≤ 48 ∧ 0 ≤ a.f1) (hs : a.f1 < 9223372036854775808) (rest : List Int) : rAmt (some (encAmt a ++ rest)) = (a, some rest) := by
  unfold rAmt encAmt
  rw [List.append_assoc, rText_of (by omega) (by omega)]
  simp only
  rw [rNum_of (by omega)]
  cases a
  simp only at h hs ⊢
  rw [Int.toNat_of_nonneg h.2]
theorem rAmts_of {l : List Amt} (h : AmtsFit l) (hs : SmallA l) (rest : List Int) : rAmts (some (encAmts l ++ rest)) = (l, some rest) := by
  have := h.len
  unfold rAmts encAmts
  rw [List.append_assoc, rCount_of (by omega) (by omega)]
  simp only
  exact rMany_of rAmt encAmt l (fun a ha rest => rAmt_of (h.each a ha) (hs a ha) rest) rest
theorem rLab_of {a : Lab} (h : a.f0.size ≤ 32 ∧ a.f1.size ≤ 32) (rest : List Int) : rLab (some (encLab a ++ rest)) = (a, some rest) := by
  unfold rLab encLab
  rw [List.append_assoc, rText_of (by omega) (by omega)]
  simp only
  rw [rText_of (by omega) (by omega)]
theorem rPart_of {q : Prt} (h : q.f0.size ≤ 32 ∧ AmtsFit q.f1 ∧ AmtsFit q.f2) (hs : SmallA q.f1 ∧ SmallA q.f2) (rest : List Int) : rPart (some (encPart q ++ rest)) = (q, some rest) := by
  unfold rPart encPart
  rw [List.append_assoc, List.append_assoc, rText_of (by omega) (by omega)]
  simp only
  rw [rAmts_of h.2.1 hs.1]
  simp only
  rw [rAmts_of h.2.2 hs.2]
structure ObR where
  path : ByteArray
  name : ByteArray
  labs : List Lab
  prio : Int
  dead : Int
  parts : List Prt
  vers : Int
def st0 (s : ByteArray) : RS := (rByte (rByte (some (bytesOf s))).2).2
def letterOf (s : ByteArray) : Int := if (rByte (rByte (some (bytesOf s))).2).1 = 1 then (rByte (some (bytesOf s))).1 else 0
def stP (st : RS) : RS := (rText 8192 st).2
def stN (st : RS) : RS := (rText 8192 (stP st)).2
def cL (st : RS) : Nat × RS := rCount 16 (stN st)
def rLs (st : RS) : List Lab × RS := rMany rLab (cL st).1 (cL st).2
def rPr (st : RS) : Int × RS := rByte (rLs st).2
def rDl (st : RS) : Int × RS := rNum (rPr st).2
def cP (st : RS) : Nat × RS := rCount 8 (rDl st).2
def rPs (st : RS) : List Prt × RS := rMany rPart (cP st).1 (cP st).2
def rVr (st : RS) : Int × RS := rNum (rPs st).2
def decO (st : RS) : ObR × RS := (⟨(rText 8192 st).1, (rText 8192 (stP st)).1, (rLs st).1, (rPr st).1, (rDl st).1, (rPs st).1, (rVr st).1⟩, (rVr st).2)
theorem dec_enc {p n : ByteArray} {ls : List Lab} {pr d : Int} {ps : List Prt} {v : Int} (h : ObFit p n ls pr d ps v) (hs : SmallP ps) :
    decO (some (textL p ++ textL n ++ encLabs ls ++ [pr] ++ numL d.toNat ++ encParts ps ++ numL v.toNat)) = (⟨p, n, ls, pr, d, ps, v⟩, some []) := by
  have hp := h.path
  have hn := h.name
  have hl := h.labs.len
  have hpl := h.len
  have e1 : rText 8192 (some (textL p ++ textL n ++ encLabs ls ++ [pr] ++ numL d.toNat ++ encParts ps ++ numL v.toNat)) = (p, some (textL n ++ (encLabs ls ++ ([pr] ++ (numL d.toNat ++ (encParts ps ++ numL v.toNat)))))) := by
    simp only [List.append_assoc]
    exact rText_of (by omega) (by omega) _
  unfold decO
  generalize (some (textL p ++ textL n ++ encLabs ls ++ [pr] ++ numL d.toNat ++ encParts ps ++ numL v.toNat)) = st at e1
  have e2 : rText 8192 (stP st) = (n, some (encLabs ls ++ ([pr] ++ (numL d.toNat ++ (encParts ps ++ numL v.toNat))))) := by
    unfold stP
    rw [e1]
    exact rText_of (by omega) (by omega) _
  have e3 : cL st = (ls.length, some (ls.flatMap encLab ++ ([pr] ++ (numL d.toNat ++ (encParts ps ++ numL v.toNat))))) := by
    unfold cL stN
    rw [e2]
    unfold encLabs
    rw [List.append_assoc]
    exact rCount_of (by omega) (by omega) _
  have e4 : rLs st = (ls, some ([pr] ++ (numL d.toNat ++ (encParts ps ++ numL v.toNat)))) := by
    unfold rLs
    rw [e3]
    exact rMany_of rLab encLab ls (fun a ha rest => rLab_of (h.labs.each a ha) rest) _
  have e5 : rPr st = (pr, some (numL d.toNat ++ (encParts ps ++ numL v.toNat))) := by
    unfold rPr
    rw [e4]
    rfl
  have e6 : rDl st = (d, some (encParts ps ++ numL v.toNat)) := by
    unfold rDl
    rw [e5]
    have := h.dead
    have := rNum_of (n := d.toNat) (by omega) (encParts ps ++ numL v.toNat)
    rw [Int.toNat_of_nonneg h.dead.1] at this
    exact this
  have e7 : cP st = (ps.length, some (ps.flatMap encPart ++ numL v.toNat)) := by
    unfold cP
    rw [e6]
    unfold encParts
    rw [List.append_assoc]
    exact rCount_of (by omega) (by omega) _
  have e8 : rPs st = (ps, some (numL v.toNat)) := by
    unfold rPs
    rw [e7]
    exact rMany_of rPart encPart ps (fun q hq rest => rPart_of (h.each q hq) (hs q hq) rest) _
  have e9 : rVr st = (v, some []) := by
    unfold rVr
    rw [e8]
    have := h.vers
    have := rNum_of (n := v.toNat) (by omega) []
    rw [Int.toNat_of_nonneg h.vers.1, List.append_nil] at this
    exact this
  rw [e1, e2, e4, e5, e6, e8, e9]
end Go.Proofs.YtniolbolfclhkaaDoor.Q
namespace Go.Proofs.YtniolbolfclhkaaDoor.Q
open Go.RowKit Go.Proofs.YtniolbolfclhkaaDoorW.PrintWords Go.Proofs.YtniolbolfclhkaaDoorW.PrintLast Go.Proofs.YtniolbolfclhkaaDoorW.PrintMore Go.Proofs.YtniolbolfclhkaaDoor.Pl
set_option linter.unusedVariables false
set_option linter.unusedSimpArgs false
theorem bytes_ok (s : ByteArray) : Bytes (bytesOf s) := by
  intro x hx
  unfold bytesOf at hx
  obtain ⟨b, _, rfl⟩ := List.mem_map.1 hx
  have := b.toNat_lt
  omega
theorem RdTo.quiet {w0 w w' : World} {g : Nat} {inp : List Int} {st : RS} (h : RdTo w0 g inp st w) (hb : Below w.heap.size w w') : RdTo w0 g inp st w' := by
  obtain ⟨p, e, h1, h2⟩ := h.ex
  exact ⟨⟨p, e, IsS107.below h1 hb, h2⟩, h.below.trans (below_low hb h.below.size)⟩
theorem RdTo.lt {w0 w : World} {g : Nat} {inp : List Int} {st : RS} (h : RdTo w0 g inp st w) : g < w.heap.size := by
  obtain ⟨p, e, h1, h2⟩ := h.ex
  exact IsS107.lt h1
theorem RdTo.ge {w0 w : World} {g : Nat} {inp : List Int} {st : RS} (h : RdTo w0 g inp st w) : w0.heap.size ≤ g := by
  obtain ⟨p, e, h1, h2⟩ := h.ex
  exact IsS107.ge h1
theorem RdTo.grown {w0 w w' : World} {g : Nat} {inp : List Int} {st : RS} {row : Option Nat} (h : RdTo w0 g inp st w) (hg : w.grownBy w' row) (hr : ∀ k, row = some k → g < k) (hb : ∀ k, row = some k → w0.heap.size ≤ k) : RdTo w0 g inp st w' := by
  obtain ⟨p, e, h1, h2⟩ := h.ex
  exact ⟨⟨p, e, IsS107.grown h1 hg (fun e => by have := hr g e.symm; omega), h2⟩, h.below.grown hg h.below.size hb⟩
theorem keep_low {w w' w2 : World} {g : Nat} {row : Option Nat} (h : KeepBut w w' g none) (hg : w'.grownBy w2 row) (hr : ∀ k, row = some k → w.heap.size ≤ k) : KeepBut w w2 g none :=
  ⟨Nat.le_trans h.1 hg.size, fun i hi hne _ => (hg.block i (Nat.lt_of_lt_of_le hi h.1) (fun e => by have := hr i e.symm; omega)).trans (h.2 i hi hne (by simp))⟩
theorem keep_below {w w' w2 : World} {g : Nat} (h : KeepBut w w' g none) (hb : Below w'.heap.size w' w2) : KeepBut w w2 g none := keep_then h (KeepBut.of_below hb g none)
theorem rd_below {b : Nat} {w w0 w1 w3 : World} {g : Nat} (h1 : Below b w w1) (h2 : Below w0.heap.size w0 w1) (h3 : Below w0.heap.size w0 w3) (hk : KeepBut w1 w3 g none) (hg : b ≤ g) (hs : b ≤ w1.heap.size) : Below b w w3 :=
  ⟨h3.os.trans (h2.os.symm.trans h1.os), h3.tape.trans (h2.tape.symm.trans h1.tape), h3.output.trans (h2.output.symm.trans h1.output), Nat.le_trans h1.size hk.1, fun k hkb => (hk.2 k (by omega) (by omega) (by simp)).trans (h1.block k hkb)⟩
set_option maxHeartbeats 4000000 in
theorem newR_ok (w : World) (A : Option Addr) (c : Nat) (inp : List Int) (hC : Kd.C (Kd.int .u8) w A inp.length inp) (hl : inp.length < 140737488355328) :
    Calls Tryd.prog 61 #[.slice A inp.length c] w fun e w' => ∃ g w0, e = .returned (.pointer (some ⟨g, 0, none⟩)) ∧ RdTo w0 g inp (some inp) w' ∧ Below w.heap.size w w' ∧ w.heap.size ≤ w0.heap.size := by
  have hu107 := Tryd.underlying107
  have HR0 := Lib.hid hC
  have HL := Lib.hid hl
  clear hC hl
  go_enter Tryd.func61, Tryd.ntmps61
  go_wp2_with ((with_reducible refine gate_builtin (b := .append) (xs := #[.const (.slice none 0 0), .tmp 3]) rfl ?_); at_builtin; refine Kd.R_append_rows (Kd.int .u8) (w0 := w) w.heap.size rfl (.const (.slice none 0 0)) (.tmp 3) 51 5 (.int .u8 0) 1 rfl Tryd.underlying51 info5 rfl (by decide) (by omega) (.slice none 0 0) ([] : List Int) inp _ _ _ (fun _ => True) (fun _ => False) rfl rfl ?aO ?aR (fun _ _ h => h) (fun _ h => h.elim) ?aF ?aB ?aS ?aL ?_; (case aR => exact HR0.out); (case aB => exact Below.refl _ _); (case aF => exact (fun _ _ => trivial)); (case aO => exact (Kd.R_nil _ _ _ _ (fun _ => True))); (case aS => exact Nat.le_refl _); (case aL => have := HL.out; simp; omega); intro v1 w1 ho hb1 hg hat; rw [List.nil_append] at ho; obtain ⟨A1, c1, rfl, hlc, hC1⟩ := Kd.R_reads ho; have HB := Lib.hid hb1; have HLC := Lib.hid hlc; have HC1 := Lib.hid hC1; clear ho hb1 hg hat hlc hC1)
  go_ret
  refine ⟨_, w1, rfl, ⟨⟨0, 0, IsS107.new w1 w1 A1 c1 inp 0 0 HLC.out (Below.refl _ _) HC1.out, rfl, Int.le_refl _, by omega, rfl⟩, (Below.refl _ _).alloc (Nat.le_refl _) _⟩, HB.out.alloc HB.out.size _, HB.out.size⟩
set_option maxHeartbeats 4000000 in
theorem opened_ok (s : ByteArray) (w : World) (hl : s.size < 140737488355328) :
    Calls Tryd.prog 37 #[.string s] w fun e w' => ∃ g w0, e = .returned (.tuple #[.pointer (some ⟨g, 0, none⟩), .int .u8 (letterOf s)]) ∧ RdTo w0 g (bytesOf s) (st0 s) w' ∧ Below w.heap.size w w' ∧ w.heap.size ≤ w0.heap.size := by
  have hcv := fun w => Lib.run_convert_string_bytes (P := Tryd.prog) w 9 51 5 s Tryd.underlying9 Tryd.underlying51 Tryd.underlying5
  have hlen : (bytesOf s).length = s.size := bytesOf_length s
  have hC : Kd.C (Kd.int .u8) (Lib.bytesWorld w 5 s) (some ⟨w.heap.size, 0, none⟩) (bytesOf s).length (bytesOf s) := by
    rw [hlen]
    exact Kd.C_of_reads (enc := Value.int .u8) (d := (0 : Int)) (h1 := fun _ => rfl) (bytes_reads w 5 s (by omega))
  have KN := Lib.hid (newR_ok (Lib.bytesWorld w 5 s) (some ⟨w.heap.size, 0, none⟩) (grownCap w s.size 0 5) (bytesOf s) hC (by omega))
  rw [hlen] at KN
  have HB := Lib.hid (bytes_below (Below.refl w.heap.size w) (Nat.le_refl _) 5 s)
  have HLN := Lib.hid (show (bytesOf s).length < 140737488355328 by omega)
  unfold letterOf st0
  obtain ⟨a, ha⟩ : ∃ a, a = rByte (some (bytesOf s)) := ⟨_, rfl⟩
  rw [← ha]
  have HA := Lib.hid ha
  clear ha hC hlen
  by_cases h1 : (rByte a.2).1 = 1
  · rw [if_pos h1]
    have H1 := Lib.hid h1
    clear h1
    go_enter Tryd.func37, Tryd.ntmps37
    go_wp2_with (first
      | (go_at_call 61; refine KN.out.mono ?_; rintro e w1 ⟨g, w0, rfl, k1, k2, k3⟩; have K1 := Lib.hid k1; have K2 := Lib.hid (HB.out.trans (below_low k2 HB.out.size)); have K3 := Lib.hid (Nat.le_trans HB.out.size k3); clear k1 k2 k3)
      | (go_at_call 40; (with_reducible refine (byte_rd K1.out HLN.out).mono ?_); rintro e w2 ⟨rfl, k4⟩; rw [← HA.out]; rw [← HA.out] at k4; have K4 := Lib.hid k4; clear k4)
      | (go_at_call 40; (with_reducible refine (byte_rd K4.out.rd HLN.out).mono ?_); rintro e w3 ⟨rfl, k5⟩; rw [H1.out]; have K5 := Lib.hid k5; clear k5))
    go_ret2
    exact ⟨g, w0, rfl, K5.out.rd, rd_below K2.out K1.out.below K5.out.rd.below (keep_then K4.out.keep K5.out.keep) (Nat.le_trans K3.out K1.out.ge) K2.out.size, K3.out⟩
  · rw [if_neg h1]
    have t1 : ((rByte a.2).1 != 1) = true := by rw [bne_iff_ne]; exact h1
    have t2 : ((rByte a.2).1 == 1) = false := beq_eq_false_iff_ne.2 h1
    clear h1
    go_enter Tryd.func37, Tryd.ntmps37
    go_wp2_with (first
      | (go_at_call 61; refine KN.out.mono ?_; rintro e w1 ⟨g, w0, rfl, k1, k2, k3⟩; have K1 := Lib.hid k1; have K2 := Lib.hid (HB.out.trans (below_low k2 HB.out.size)); have K3 := Lib.hid (Nat.le_trans HB.out.size k3); clear k1 k2 k3)
      | (go_at_call 40; (with_reducible refine (byte_rd K1.out HLN.out).mono ?_); rintro e w2 ⟨rfl, k4⟩; rw [← HA.out]; rw [← HA.out] at k4; have K4 := Lib.hid k4; clear k4)
      | (go_at_call 40; (with_reducible refine (byte_rd K4.out.rd HLN.out).mono ?_); rintro e w3 ⟨rfl, k5⟩; have K5 := Lib.hid k5; clear k5))
    go_ret2
    exact ⟨g, w0, rfl, K5.out.rd, rd_below K2.out K1.out.below K5.out.rd.below (keep_then K4.out.keep K5.out.keep) (Nat.le_trans K3.out K1.out.ge) K2.out.size, K3.out⟩
section
variable {w0 w : World} {g : Nat} {inp : List Int} {st : RS}
theorem text8k (h : RdTo w0 g inp st w) (hb : Bytes inp) (hl : inp.length < 140737488355328) :
    Calls Tryd.prog 38 #[.pointer (some ⟨g, 0, none⟩), .int .i64 8192] w fun e w' => e = .returned (.string (rText 8192 st).1) ∧ RdStep w0 g inp (rText 8192 st).2 w w' := text_rd 8192 (by omega) h hb hl
theorem count16 (h : RdTo w0 g inp st w) (hb : Bytes inp) (hl : inp.length < 140737488355328) :
    Calls Tryd.prog 39 #[.pointer (some ⟨g, 0, none⟩), .int .i64 16] w fun e w' => e = .returned (.int .i64 ((rCount 16 st).1 : Int)) ∧ RdStep w0 g inp (rCount 16 st).2 w w' := count_rd 16 (by omega) h hb hl
theorem count8 (h : RdTo w0 g inp st w) (hb : Bytes inp) (hl : inp.length < 140737488355328) :
    Calls Tryd.prog 39 #[.pointer (some ⟨g, 0, none⟩), .int .i64 8] w fun e w' => e = .returned (.int .i64 ((rCount 8 st).1 : Int)) ∧ RdStep w0 g inp (rCount 8 st).2 w w' := count_rd 8 (by omega) h hb hl
end
theorem count_le (m : Nat) (st : RS) : (rCount m st).1 ≤ m := by
  unfold rCount
  rcases rUint st with ⟨n, _ | r⟩
  · exact Nat.zero_le _
  · by_cases hn : n ≤ m ∧ n ≤ 4096
    · simp only [if_pos hn]; exact hn.1
    · simp only [if_neg hn]; exact Nat.zero_le _
end Go.Proofs.YtniolbolfclhkaaDoor.Q
namespace Go.Proofs.YtniolbolfclhkaaDoor.Q
open Go.RowKit Go.Proofs.YtniolbolfclhkaaDoorW.PrintWords Go.Proofs.YtniolbolfclhkaaDoorW.PrintLast Go.Proofs.YtniolbolfclhkaaDoorW.PrintMore Go.Proofs.YtniolbolfclhkaaDoor.Pl
set_option linter.unusedVariables false
set_option linter.unusedSimpArgs false
structure AmS {α : Type} (d : Kd α) (e : Nat) (w0 w : World) (g : Nat) (inp : List Int) (wr : World) (v : Value) (l : List α) (st : RS) : Prop where
  rd : RdTo w0 g inp st wr
  row : d.R e wr w.heap.size (fun k => w.heap.size ≤ k) v l
  keep : KeepBut w wr g none
theorem AmS.quiet {α : Type} {d : Kd α} {e : Nat} {w0 w : World} {g : Nat} {inp : List Int} {wr w' : World} {v : Value} {l : List α} {st : RS} (h : AmS d e w0 w g inp wr v l st) (hg : g < w.heap.size) (hb : Below wr.heap.size wr w') : AmS d e w0 w g inp w' v l st :=
  ⟨h.rd.quiet hb, Kd.R_below h.row hb, keep_below h.keep hb⟩
theorem AmS.step {α : Type} {d : Kd α} {e : Nat} {w0 w : World} {g : Nat} {inp : List Int} {wr w' : World} {v : Value} {l : List α} {st st' : RS} (h : AmS d e w0 w g inp wr v l st) (hg : g < w.heap.size) (k : RdStep w0 g inp st' wr w') : AmS d e w0 w g inp w' v l st' :=
  ⟨k.rd, Kd.R_keep h.row k.keep (fun k hk => by omega), keep_then h.keep k.keep⟩
theorem AmS.append {α : Type} {d : Kd α} {e : Nat} {w0 w : World} {g : Nat} {inp : List Int} {wr w' : World} {v v' : Value} {l l' : List α} {st : RS} (h : AmS d e w0 w g inp wr v l st) (hg : g < w.heap.size) (hr : d.R e w' w.heap.size (fun k => w.heap.size ≤ k) v' l') (hgr : wr.grownBy w' v.ownBlock) : AmS d e w0 w g inp w' v' l' st :=
  ⟨h.rd.grown hgr (fun k hk => by have := h.row.1 k hk; omega) (fun k hk => by have := h.row.1 k hk; have := h.rd.ge; omega), hr, keep_low h.keep hgr (fun k hk => h.row.1 k hk)⟩
set_option maxHeartbeats 8000000 in
set_option maxRecDepth 100000 in
theorem amounts_rd {w0 w : World} {g : Nat} {inp : List Int} {st : RS} (h : RdTo w0 g inp st w) (hb : Bytes inp) (hl : inp.length < 140737488355328) :
    Calls Tryd.prog 42 #[.pointer (some ⟨g, 0, none⟩)] w fun e w' => ∃ v, e = .returned v ∧ Kd.R k50 50 w' w.heap.size (fun k => w.heap.size ≤ k) v (rAmts st).1 ∧ RdStep w0 g inp (rAmts st).2 w w' := by
  have hu50 := Tryd.underlying50
  have HG := h.lt
  have HBY := Lib.hid hb
  have HLN := Lib.hid hl
  have KC := Lib.hid (count16 h hb hl)
  have HN := Lib.hid (count_le 16 st)
  unfold rAmts
  generalize (rCount 16 st).1 = n at KC HN ⊢
  generalize (rCount 16 st).2 = st1 at KC ⊢
  clear hb hl
  go_enter Tryd.func42, Tryd.ntmps42
  go_wp2_with (go_at_call 39; (with_reducible refine KC.out.mono ?_); rintro e w1 ⟨rfl, k1⟩; have K1 := Lib.hid k1; clear k1)
  go_loopg [3, 6] n (fun gg v3 v6 wr => ∃ (k : Nat) (v : Value), v = v3 ∧ v6 = .int .i64 (k : Int) ∧ Aside0 (k + gg = n) ∧ Aside0 (AmS k50 50 w0 w g inp wr v (rMany rAmt k st1).1 (rMany rAmt k st1).2))
  case atStart => exact ⟨0, _, rfl, rfl, ⟨by omega⟩, ⟨⟨K1.out.rd, Kd.R_nil _ _ _ _ _, K1.out.keep⟩⟩⟩
  case round =>
    obtain ⟨k, v, rfl, rfl, HK, AR⟩ := hrel
    have hkg := HK.out
    cases gk with
    | zero =>
      have b1 : decide ((k : Int) < (n : Int)) = false := decide_eq_false (by omega)
      have b2 : decide (k < n) = false := decide_eq_false (by omega)
      obtain rfl : k = n := by omega
      go_wp2
      go_ret
      exact ⟨_, rfl, AR.out.row, AR.out.rd, AR.out.keep⟩
    | succ gg =>
      have b1 : decide ((k : Int) < (n : Int)) = true := decide_eq_true (by omega)
      have b2 : decide (k < n) = true := decide_eq_true (by omega)
      have hk63 : (k : Int) + 1 ≤ 9223372036854775807 := by have := HN.out; omega
      have HS := Lib.hid (show rMany rAmt (k + 1) st1 = ((rMany rAmt k st1).1 ++ [(rAmt (rMany rAmt k st1).2).1], (rAmt (rMany rAmt k st1).2).2) from rfl)
      have HXL := Lib.hid (show (rMany rAmt k st1).1.length ≤ 16 by rw [rMany_len]; have := HN.out; omega)
      clear hkg
      generalize rMany rAmt k st1 = x at AR HS HXL
      go_wp2_with (first
        | (go_at_call 38; (with_reducible refine (text8k AR.out.rd HBY.out HLN.out).mono ?_); rintro e w5 ⟨rfl, k5⟩; have A5 := Aside0.mk (AR.out.step HG k5); clear k5)
        | (go_at_call 41; (with_reducible refine (number_rd A5.out.rd HBY.out HLN.out).mono ?_); rintro e w6 ⟨rfl, k6⟩; have A6 := Aside0.mk (A5.out.step HG k6); clear k6)
        | ((with_reducible refine gate_builtin (b := .append) (xs := #[.tmp 8, .tmp 14]) rfl ?_); at_builtin; refine Kd.R_append k50 (w0 := w6) w.heap.size rfl (.tmp 8) (.tmp 14) 33 50 (.agg #[(.string ⟨#[]⟩), (.int .i64 0)]) 24 rfl Tryd.underlying33 info50 rfl (by decide) (by omega) v x.1 ⟨(rText 8192 x.2).1, (rNum (rText 8192 x.2).2).1⟩ [.string (rText 8192 x.2).1, .int .i64 (rNum (rText 8192 x.2).2).1] (fun k => w.heap.size ≤ k) (fun _ => False) rfl rfl (k50_mkM _ _ _ _) (fun _ h => h.elim) (fun k hk => Nat.le_trans A6.out.keep.1 hk) A6.out.row (Below.refl _ _) A6.out.keep.1 (by have := HXL.out; omega) ?_; intro v1 w7 hR7 hb7 hg7 hat7; have A7 := Aside0.mk (A6.out.append HG hR7 hg7); clear hR7 hb7 hg7 hat7))
      go_roundg gg
      case measure => omega
      case rel => exact ⟨k + 1, _, rfl, by go_num, ⟨by have := HK.out; omega⟩, ⟨by rw [HS.out]; exact A7.out⟩⟩
end Go.Proofs.YtniolbolfclhkaaDoor.Q
namespace Go.Proofs.YtniolbolfclhkaaDoor.Q
open Go.RowKit Go.Proofs.YtniolbolfclhkaaDoorW.PrintWords Go.Proofs.YtniolbolfclhkaaDoorW.PrintLast Go.Proofs.YtniolbolfclhkaaDoorW.PrintMore Go.Proofs.YtniolbolfclhkaaDoor.Pl
set_option linter.unusedVariables false
set_option linter.unusedSimpArgs false
theorem results_cell_row_tmp {P : Program} {fn : Func} {p u : Tmp} {ty : TypeId} (h : fn.results = #[.cell p ty, .tmp u]) (tmps : Array Value) (w : World) (g : Nat) (t : TypeId) (cs : Array Value) (fr : Nat × Nat) (d : TypeDesc)
    (hp : tmps.getD p undef = .pointer (some ⟨g, 0, none⟩)) (hg : w.heap[g]? = some (.cells cs t fr))
    (hu : P.underlying ty = some d) (hd : (match d with | .struct _ | .array _ _ => true | _ => false) = true) (hi : (P.info? ty).map (·.size) = some cs.size) :
    (results fn tmps).run P w = .ok (.tuple #[.agg cs, tmps.getD u undef]) w := by
  have hp' : tmps[p]?.getD undef = .pointer (some ⟨g, 0, none⟩) := by simpa using hp
  simp [results, h, hp', asAddr, run_loadVar_row w g t ty cs fr d hg hu hd hi, Sem.run_bind]
structure DeS (w0 w : World) (g ro bo : Nat) (inp : List Int) (wr : World) (cs : Array Value) (vl : Value) (ls : List Lab) (vp : Value) (ps : List Prt) (st : RS) : Prop where
  rd : RdTo w0 g inp st wr
  old : Below w.heap.size w wr
  res : wr.heap[ro]? = some (.cells #[.string ⟨#[]⟩, .string ⟨#[]⟩, .slice none 0 0, .int .i64 0, .int .i64 0, .slice none 0 0, .int .i64 0] 25 (0, 0))
  box : wr.heap[bo]? = some (.cells cs 25 (0, 0))
  labs : Kd.R k37 37 wr w.heap.size (fun k => g < k) vl ls
  parts : Kd.R k35 35 wr w.heap.size (fun k => g < k) vp ps
  hg : w.heap.size ≤ g
  hro : w.heap.size ≤ ro
  hbo : g < bo
  hne : ro ≠ bo
section
variable {w0 w : World} {g ro bo : Nat} {inp : List Int} {wr w' : World} {cs : Array Value} {vl : Value} {ls : List Lab} {vp : Value} {ps : List Prt} {st st' : RS}
theorem DeS.rdblk (h : DeS w0 w g ro bo inp wr cs vl ls vp ps st) : ∃ c, wr.heap[g]? = some (.cells c 107 (0, 0)) := by
  obtain ⟨p, e, hI, _⟩ := h.rd.ex
  obtain ⟨A, c, hb, _⟩ := isS_blk hI
  exact ⟨_, hb⟩
theorem DeS.gbo (h : DeS w0 w g ro bo inp wr cs vl ls vp ps st) : g ≠ bo := by
  obtain ⟨c, hc⟩ := h.rdblk
  rintro rfl
  rw [h.box] at hc
  injection hc with hc
  injection hc with _ hc
  cases hc
theorem DeS.gro (h : DeS w0 w g ro bo inp wr cs vl ls vp ps st) : g ≠ ro := by
  obtain ⟨c, hc⟩ := h.rdblk
  rintro rfl
  rw [h.res] at hc
  injection hc with hc
  injection hc with _ hc
  cases hc
theorem DeS.quiet (h : DeS w0 w g ro bo inp wr cs vl ls vp ps st) (hb : Below wr.heap.size wr w') : DeS w0 w g ro bo inp w' cs vl ls vp ps st :=
  ⟨h.rd.quiet hb, h.old.trans (below_low hb h.old.size), (hb.block ro (blk_lt h.res)).trans h.res, (hb.block bo (blk_lt h.box)).trans h.box, Kd.R_below h.labs hb, Kd.R_below h.parts hb, h.hg, h.hro, h.hbo, h.hne⟩
theorem DeS.step (h : DeS w0 w g ro bo inp wr cs vl ls vp ps st) (k : RdStep w0 g inp st' wr w') : DeS w0 w g ro bo inp w' cs vl ls vp ps st' :=
  ⟨k.rd, rd_below h.old h.rd.below k.rd.below k.keep h.hg h.old.size, (k.keep.2 ro (blk_lt h.res) (Ne.symm h.gro) (by simp)).trans h.res, (k.keep.2 bo (blk_lt h.box) (Ne.symm h.gbo) (by simp)).trans h.box, Kd.R_keep h.labs k.keep (fun _ hk => by omega), Kd.R_keep h.parts k.keep (fun _ hk => by omega), h.hg, h.hro, h.hbo, h.hne⟩
theorem DeS.set (h : DeS w0 w g ro bo inp wr cs vl ls vp ps st) (j : Nat) (u : Value) (cs' : Array Value) (hc : cs.setIfInBounds j u = cs') : DeS w0 w g ro bo inp (wr.setCell ⟨bo, j, none⟩ u) cs' vl ls vp ps st := by
  refine ⟨?_, h.old.setCell (p := ⟨bo, j, none⟩) (Nat.le_of_lt (Nat.lt_of_le_of_lt h.hg h.hbo)) u, (Below.heap_setCell wr ⟨bo, j, none⟩ u ro h.hne).trans h.res, blk_put h.box j u hc, Kd.R_set h.labs h.box (by decide) j u, Kd.R_set h.parts h.box (by decide) j u, h.hg, h.hro, h.hbo, h.hne⟩
  obtain ⟨p, e, hI, hS⟩ := h.rd.ex
  exact ⟨⟨p, e, IsS107.far (p := ⟨bo, j, none⟩) hI h.gbo u, hS⟩, h.rd.below.setCell (p := ⟨bo, j, none⟩) (Nat.le_of_lt (Nat.lt_of_le_of_lt h.rd.ge h.hbo)) u⟩
theorem DeS.growL {vl' : Value} {ls' : List Lab} (h : DeS w0 w g ro bo inp wr cs vl ls (.slice none 0 0) [] st) (hr : Kd.R k37 37 w' w.heap.size (fun k => g < k) vl' ls') (hg : wr.grownBy w' vl.ownBlock) : DeS w0 w g ro bo inp w' cs vl' ls' (.slice none 0 0) [] st :=
  ⟨h.rd.grown hg (fun k hk => h.labs.1 k hk) (fun k hk => by have := h.labs.1 k hk; have := h.rd.ge; omega), h.old.grown hg h.old.size (fun k hk => by have := h.labs.1 k hk; have := h.hg; omega),
   blk_grown h.res hg (Kd.R_ne h.labs h.res (by decide)), blk_grown h.box hg (Kd.R_ne h.labs h.box (by decide)), hr, Kd.R_nil _ _ _ _ _, h.hg, h.hro, h.hbo, h.hne⟩
theorem DeS.growP {vp' : Value} {ps' : List Prt} (h : DeS w0 w g ro bo inp wr cs vl ls vp ps st) (hr : Kd.R k35 35 w' w.heap.size (fun k => g < k) vp' ps') (hg : wr.grownBy w' vp.ownBlock) : DeS w0 w g ro bo inp w' cs vl ls vp' ps' st :=
  ⟨h.rd.grown hg (fun k hk => h.parts.1 k hk) (fun k hk => by have := h.parts.1 k hk; have := h.rd.ge; omega), h.old.grown hg h.old.size (fun k hk => by have := h.parts.1 k hk; have := h.hg; omega),
   blk_grown h.res hg (Kd.R_ne h.parts h.res (by decide)), blk_grown h.box hg (Kd.R_ne h.parts h.box (by decide)), Kd.R_over' h.labs (fun k hk => Kd.R_typed h.parts k hk) (by decide) hg, hr, h.hg, h.hro, h.hbo, h.hne⟩
structure FiS (w : World) (g ro bo : Nat) (wr : World) (cr cs : Array Value) (vl : Value) (ls : List Lab) (vp : Value) (ps : List Prt) : Prop where
  old : Below w.heap.size w wr
  res : wr.heap[ro]? = some (.cells cr 25 (0, 0))
  box : wr.heap[bo]? = some (.cells cs 25 (0, 0))
  labs : Kd.R k37 37 wr w.heap.size (fun k => g < k) vl ls
  parts : Kd.R k35 35 wr w.heap.size (fun k => g < k) vp ps
  hg : w.heap.size ≤ g
  hro : w.heap.size ≤ ro
  hne : ro ≠ bo
theorem DeS.fin (h : DeS w0 w g ro bo inp wr cs vl ls vp ps st) (k : KeepBut wr w' g none) (hb : Below w0.heap.size w0 w') : FiS w g ro bo w' #[.string ⟨#[]⟩, .string ⟨#[]⟩, .slice none 0 0, .int .i64 0, .int .i64 0, .slice none 0 0, .int .i64 0] cs vl ls vp ps :=
  ⟨rd_below h.old h.rd.below hb k h.hg h.old.size, (k.2 ro (blk_lt h.res) (Ne.symm h.gro) (by simp)).trans h.res, (k.2 bo (blk_lt h.box) (Ne.symm h.gbo) (by simp)).trans h.box, Kd.R_keep h.labs k (fun _ hk => by omega), Kd.R_keep h.parts k (fun _ hk => by omega), h.hg, h.hro, h.hne⟩
theorem FiS.quiet {cr : Array Value} (h : FiS w g ro bo wr cr cs vl ls vp ps) (hb : Below wr.heap.size wr w') : FiS w g ro bo w' cr cs vl ls vp ps :=
  ⟨h.old.trans (below_low hb h.old.size), (hb.block ro (blk_lt h.res)).trans h.res, (hb.block bo (blk_lt h.box)).trans h.box, Kd.R_below h.labs hb, Kd.R_below h.parts hb, h.hg, h.hro, h.hne⟩
theorem FiS.set {cr : Array Value} (h : FiS w g ro bo wr cr cs vl ls vp ps) (j : Nat) (u : Value) (cr' : Array Value) (hc : cr.setIfInBounds j u = cr') : FiS w g ro bo (wr.setCell ⟨ro, j, none⟩ u) cr' cs vl ls vp ps :=
  ⟨h.old.setCell (p := ⟨ro, j, none⟩) h.hro u, blk_put h.res j u hc, (Below.heap_setCell wr ⟨ro, j, none⟩ u bo (Ne.symm h.hne)).trans h.box, Kd.R_set h.labs h.res (by decide) j u, Kd.R_set h.parts h.res (by decide) j u, h.hg, h.hro, h.hne⟩
def put7 (wr : World) (ro : Nat) (a0 a1 a2 a3 a4 a5 a6 : Value) : World :=
  (((((((wr.setCell ⟨ro, 0, none⟩ a0).setCell ⟨ro, 1, none⟩ a1).setCell ⟨ro, 2, none⟩ a2).setCell ⟨ro, 3, none⟩ a3).setCell ⟨ro, 4, none⟩ a4).setCell ⟨ro, 5, none⟩ a5).setCell ⟨ro, 6, none⟩ a6)
theorem FiS.put {b0 b1 b2 b3 b4 b5 b6 : Value} (h : FiS w g ro bo wr #[b0, b1, b2, b3, b4, b5, b6] cs vl ls vp ps) (a0 a1 a2 a3 a4 a5 a6 : Value) : FiS w g ro bo (put7 wr ro a0 a1 a2 a3 a4 a5 a6) #[a0, a1, a2, a3, a4, a5, a6] cs vl ls vp ps := by
  have h0 := h.set 0 a0 #[a0, b1, b2, b3, b4, b5, b6] rfl
  have h1 := h0.set 1 a1 #[a0, a1, b2, b3, b4, b5, b6] rfl
  have h2 := h1.set 2 a2 #[a0, a1, a2, b3, b4, b5, b6] rfl
  have h3 := h2.set 3 a3 #[a0, a1, a2, a3, b4, b5, b6] rfl
  have h4 := h3.set 4 a4 #[a0, a1, a2, a3, a4, b5, b6] rfl
  have h5 := h4.set 5 a5 #[a0, a1, a2, a3, a4, a5, b6] rfl
  have h6 := h5.set 6 a6 #[a0, a1, a2, a3, a4, a5, a6] rfl
  exact h6
theorem RdTo.byte_bound (h : RdTo w0 g inp st wr) (hb : Bytes inp) : 0 ≤ (rByte st).1 ∧ (rByte st).1 < 256 := by
  obtain ⟨p, e, _, hS⟩ := h.ex
  cases st with
  | none => exact ⟨by decide, by decide⟩
  | some l =>
    cases l with
    | nil => exact ⟨by decide, by decide⟩
    | cons b r =>
      obtain ⟨_, _, _, h2⟩ := hS
      exact hb b (List.mem_of_mem_drop (by rw [h2]; exact List.mem_cons_self))
theorem num_bound (st : RS) : -1 ≤ (rNum st).1 ∧ (rNum st).1 ≤ 9223372036854775807 := by
  unfold rNum
  simp only
  split <;> omega
theorem small_amts (st : RS) : SmallA (rAmts st).1 := by
  intro a ha
  unfold rAmts at ha
  obtain ⟨st', rfl⟩ := rMany_mem _ _ _ a ha
  have := (num_bound (rText 8192 st').2).2
  show (rNum (rText 8192 st').2).1 < _
  omega
theorem small_parts (n : Nat) (st : RS) : SmallP (rMany rPart n st).1 := by
  intro q hq
  obtain ⟨st', rfl⟩ := rMany_mem _ _ _ q hq
  exact ⟨small_amts _, small_amts _⟩
theorem DeS.frozen (h : DeS w0 w g ro bo inp wr cs vl ls vp ps st) (j : Nat) : wr.frozen? ⟨bo, j, none⟩ = false := blk_frozen h.box j
end
end Go.Proofs.YtniolbolfclhkaaDoor.Q
namespace Go.Proofs.YtniolbolfclhkaaDoor.Q
open Go.RowKit Go.Proofs.YtniolbolfclhkaaDoorW.PrintWords Go.Proofs.YtniolbolfclhkaaDoorW.PrintLast Go.Proofs.YtniolbolfclhkaaDoorW.PrintMore Go.Proofs.YtniolbolfclhkaaDoor.Pl
set_option linter.unusedVariables false
set_option linter.unusedSimpArgs false
theorem info_lab : (Tryd.prog.info? 37).map (fun i => (i.zero, i.size, i.bytes)) = some (some (.agg #[(.string ⟨#[]⟩), (.string ⟨#[]⟩)]), 2, 32) := by kernel_rfl
def zeroR : ObR := ⟨⟨#[]⟩, ⟨#[]⟩, [], 0, 0, [], 0⟩
def goodD (s : ByteArray) : Bool := decide (letterOf s = 79) && (decide ((decO (st0 s)).2 = some []) && decide (encR (decO (st0 s)).1.path (decO (st0 s)).1.name (decO (st0 s)).1.labs (decO (st0 s)).1.prio (decO (st0 s)).1.dead (decO (st0 s)).1.parts (decO (st0 s)).1.vers = (s, 0)))
def decR (s : ByteArray) : ObR := if goodD s = true then (decO (st0 s)).1 else zeroR
def decE (s : ByteArray) : Int := if goodD s = true then 0 else 2
set_option maxHeartbeats 16000000 in
set_option maxRecDepth 100000 in
theorem decode_ok (s : ByteArray) (w : World) (hl : s.size < 140737488355328) (hG : Glob w) :
    Calls Tryd.prog 17 #[.string s] w fun e w' => ∃ vl vp, e = .returned (.tuple #[.agg #[.string (decR s).path, .string (decR s).name, vl, .int .i64 (decR s).prio, .int .i64 (decR s).dead, vp, .int .i64 (decR s).vers], .int .i64 (decE s)]) ∧ Kd.R k37 37 w' w.heap.size (fun k => w.heap.size ≤ k) vl (decR s).labs ∧ Kd.R k35 35 w' w.heap.size (fun k => w.heap.size ≤ k) vp (decR s).parts ∧ Below w.heap.size w w' := by
  have hu25 := Tryd.underlying25
  have hu37 := Tryd.underlying37
  have hu35 := Tryd.underlying35
  have GL := Lib.hid hG
  have HBY := Lib.hid (bytes_ok s)
  have HLN := Lib.hid (show (bytesOf s).length < 140737488355328 by rw [bytesOf_length]; exact hl)
  have KO := Lib.hid (fun W => opened_ok s W hl)
  have hal := (Below.refl w.heap.size w).alloc (Nat.le_refl _) (.cells #[.string ⟨#[]⟩, .string ⟨#[]⟩, .slice none 0 0, .int .i64 0, .int .i64 0, .slice none 0 0, .int .i64 0] 25)
  have hnew := blk_new w (.cells #[.string ⟨#[]⟩, .string ⟨#[]⟩, .slice none 0 0, .int .i64 0, .int .i64 0, .slice none 0 0, .int .i64 0] 25)
  have HB := Lib.hid hal
  have BR := Lib.hid hnew
  have HS1 := Lib.hid (show w.heap.size < (w.alloc (.cells #[.string ⟨#[]⟩, .string ⟨#[]⟩, .slice none 0 0, .int .i64 0, .int .i64 0, .slice none 0 0, .int .i64 0] 25)).heap.size by simp)
  clear hG hl hal hnew
  go_enter Tryd.func17, Tryd.ntmps17
  go_upto_region 1 with fail
  generalize w.alloc _ = w1 at HB BR HS1 ⊢
  obtain ⟨ro, hro⟩ : ∃ ro, ro = w.heap.size := ⟨_, rfl⟩
  rw [← hro] at BR ⊢
  have HRO := Lib.hid hro
  clear hro
  go_upto_region 3 with (first
    | (go_at_call 37; (with_reducible refine (KO.out w1).mono ?_); rintro e w2 ⟨g, w0, rfl, k1, k2, k3⟩; have K2 := Lib.hid k1; have B2 := Lib.hid (HB.out.trans (below_low k2 HB.out.size)); have R2 := Lib.hid ((k2.block ro (blk_lt BR.out)).trans BR.out); have GGE := Lib.hid (show w1.heap.size ≤ g from Nat.le_trans k3 k1.ge); clear k1 k2 k3)
    | (go_at_call 38; (with_reducible refine (text8k K2.out HBY.out HLN.out).mono ?_); rintro e w3 ⟨rfl, k4⟩; have K3 := Lib.hid k4; have R3 := Lib.hid ((k4.keep.2 ro (blk_lt R2.out) (by have := GGE.out; have := HRO.out; have := HS1.out; omega) (by simp)).trans R2.out); clear k4)
    | (go_at_call 38; (with_reducible refine (text8k K3.out.rd HBY.out HLN.out).mono ?_); rintro e w4 ⟨rfl, k4⟩; have K4 := Lib.hid k4; have R4 := Lib.hid ((k4.keep.2 ro (blk_lt R3.out) (by have := GGE.out; have := HRO.out; have := HS1.out; omega) (by simp)).trans R3.out); clear k4))
  obtain ⟨pa, hpa⟩ : ∃ pa, pa = (rText 8192 (st0 s)).1 := ⟨_, rfl⟩
  obtain ⟨na, hna⟩ : ∃ na, na = (rText 8192 (rText 8192 (st0 s)).2).1 := ⟨_, rfl⟩
  rw [← hpa, ← hna]
  have HPA := Lib.hid hpa
  have HNA := Lib.hid hna
  clear hpa hna
  have hbelow4 := rd_below B2.out K2.out.below K4.out.rd.below (keep_then K3.out.keep K4.out.keep) (Nat.le_trans (Nat.le_of_lt HS1.out) GGE.out) B2.out.size
  have hst := DeS.mk (cs := #[.string pa, .string na, .slice none 0 0, .int .i64 0, .int .i64 0, .slice none 0 0, .int .i64 0]) (bo := w4.heap.size) (K4.out.rd.quiet ((Below.refl _ _).alloc (Nat.le_refl _) (.cells #[.string pa, .string na, .slice none 0 0, .int .i64 0, .int .i64 0, .slice none 0 0, .int .i64 0] 25))) (hbelow4.alloc hbelow4.size _) (blk_alloc R4.out _) (blk_new w4 _) (Kd.R_nil k37 37 _ _ _) (Kd.R_nil k35 35 _ _ _) (Nat.le_trans (Nat.le_of_lt HS1.out) GGE.out) (Nat.le_of_eq HRO.out.symm) K4.out.rd.lt (by have := blk_lt R4.out; omega)
  have A5 := Aside0.mk hst
  clear hst hbelow4 K2 K3 K4 B2 R2 R3 R4 BR
  obtain ⟨bo, hbo⟩ : ∃ bo, bo = w4.heap.size := ⟨_, rfl⟩
  rw [← hbo] at A5 ⊢
  clear hbo
  generalize w4.alloc _ = w5 at A5 ⊢
  change Aside0 (DeS _ _ _ _ _ _ _ _ _ _ _ _ (stN (st0 s))) at A5
  have HN16 := Lib.hid (count_le 16 (stN (st0 s)))
  go_wp2_with (go_at_call 39; (with_reducible refine (count16 A5.out.rd HBY.out HLN.out).mono ?_); rintro e w6 ⟨rfl, k6⟩; have A6 := Aside0.mk (A5.out.step k6); clear k6 A5)
  change Aside0 (DeS _ _ _ _ _ _ _ _ _ _ _ _ (cL (st0 s)).2) at A6
  have HCL := Lib.hid (show rCount 16 (stN (st0 s)) = cL (st0 s) from rfl)
  rw [HCL.out] at HN16 ⊢
  obtain ⟨nl, hnl⟩ : ∃ nl, nl = (cL (st0 s)).1 := ⟨_, rfl⟩
  rw [← hnl] at HN16 ⊢
  have HNL := Lib.hid hnl
  clear hnl
  go_loopg [21] nl (fun gg v21 wr => ∃ (k : Nat) (v : Value), v21 = .int .i64 (k : Int) ∧ Aside0 (k + gg = nl) ∧ Aside0 (DeS w0 w g ro bo (bytesOf s) wr #[.string pa, .string na, v, .int .i64 0, .int .i64 0, .slice none 0 0, .int .i64 0] v (rMany rLab k (cL (st0 s)).2).1 (.slice none 0 0) [] (rMany rLab k (cL (st0 s)).2).2))
  case atStart => exact ⟨0, _, rfl, ⟨by omega⟩, A6⟩
  case round =>
    clear A6
    obtain ⟨k, v, rfl, HK, AR⟩ := hrel
    have hkg := HK.out
    cases gk with
    | succ gg =>
      have b1 : decide ((k : Int) < (nl : Int)) = true := decide_eq_true (by omega)
      have b2 : decide (k < nl) = true := decide_eq_true (by omega)
      have hk63 : (k : Int) + 1 ≤ 9223372036854775807 := by have := HN16.out; omega
      have HS := Lib.hid (show rMany rLab (k + 1) (cL (st0 s)).2 = ((rMany rLab k (cL (st0 s)).2).1 ++ [(rLab (rMany rLab k (cL (st0 s)).2).2).1], (rLab (rMany rLab k (cL (st0 s)).2).2).2) from rfl)
      have HXL := Lib.hid (show (rMany rLab k (cL (st0 s)).2).1.length ≤ 16 by rw [rMany_len]; have := HN16.out; omega)
      clear hkg
      obtain ⟨Av, cv, rfl⟩ := Kd.R_slice AR.out.labs
      generalize rMany rLab k (cL (st0 s)).2 = x at AR HS HXL
      generalize hv : Value.slice Av x.1.length cv = v at AR
      go_upto_region 5 with fail
      refine start_ (n := 11) (S := fun w' => w'.cell? ⟨bo, 2, none⟩ = some v) (ds := [10]) #[false, false, false, false, false, false, false, false, false, false, false] (by kernel_rfl) rfl rfl ((blk_cell AR.out.box 2).trans rfl) (fun hHeld => ?_)
      have AD := Aside0.mk (AR.out.quiet (drew_below wr))
      clear AR
      generalize wr.drew = wd at AD hHeld ⊢
      refine pure_ (i := 0) (N := some 23) (v := ?_) (a' := ?_) #[true, false, false, false, false, false, false, false, false, false, false] rfl rfl (by kernel_rfl) (fun _ _ _ h => h) (Or.inl ⟨by rfl, ?_⟩) ?_ ?_
      rotate_left
      · intro w'
        go_simp
        with_reducible rfl
      rotate_left
      · simp only [pu_]
        rfl
      refine take_ (i := 1) (N := some 24) (v := ?_) (a' := ?_) #[true, true, false, false, false, false, false, false, false, false, false] rfl rfl (by kernel_rfl) (fun _ _ _ h => h) (Or.inl ⟨by rfl, ?_⟩) hHeld ?_ ?_
      rotate_left
      · rintro w' s0
        go_simp
        with_reducible rfl
      rotate_left
      · simp only [pu_]
        rfl
      refine pure_ (i := 2) (N := some 25) (v := ?_) (a' := ?_) #[true, true, true, false, false, false, false, false, false, false, false] rfl rfl (by kernel_rfl) (fun _ _ _ h => h) (Or.inl ⟨by rfl, ?_⟩) ?_ ?_
      rotate_left
      · intro w'
        go_simp
        with_reducible rfl
      rotate_left
      · simp only [pu_]
        rfl
      refine pure_ (i := 4) (N := some 27) (v := ?_) (a' := ?_) #[true, true, true, false, true, false, false, false, false, false, false] rfl rfl (by kernel_rfl) (fun _ _ _ h => h) (Or.inl ⟨by rfl, ?_⟩) ?_ ?_
      rotate_left
      · intro w'
        go_simp
        with_reducible rfl
      rotate_left
      · simp only [pu_]
        rfl
      refine one_ (i := 3) (N := some 26) #[true, true, true, true, true, false, false, false, false, false, false] rfl rfl (by kernel_rfl) (by decide) (fun K hK => ?_)
      refine goes_ Tryd.func38 (by kernel_rfl) rfl #[.pointer (some ⟨g, 0, none⟩), .int .i64 8192] (by rfl) rfl rfl (by (try simp only [List.map_toArray, List.map_cons, List.map_nil]); first | done | rfl) ?_
      refine (text8k AD.out.rd HBY.out HLN.out).mono ?_
      rintro e w5 ⟨rfl, k5⟩
      have A5 := Aside0.mk (AD.out.step k5)
      clear k5 AD
      refine ⟨_, rfl, ?_⟩
      refine hK.out _ _ (((blk_cell A5.out.box 2).trans rfl)) (fun hHeld => ?_)
      clear hK K
      refine norm_ (a' := ?_) ?_ ?_
      rotate_left
      · show Act.put _ (some 26) _ = _
        simp only [pu_]
        rfl
      refine one_ (i := 5) (N := some 28) #[true, true, true, true, true, true, false, false, false, false, false] rfl rfl (by kernel_rfl) (by decide) (fun K hK => ?_)
      refine goes_ Tryd.func38 (by kernel_rfl) rfl #[.pointer (some ⟨g, 0, none⟩), .int .i64 8192] (by rfl) rfl rfl (by (try simp only [List.map_toArray, List.map_cons, List.map_nil]); first | done | rfl) ?_
      refine (text8k A5.out.rd HBY.out HLN.out).mono ?_
      rintro e w6 ⟨rfl, k6⟩
      have A6 := Aside0.mk (A5.out.step k6)
      clear k6 A5
      refine ⟨_, rfl, ?_⟩
      refine hK.out _ _ (((blk_cell A6.out.box 2).trans rfl)) (fun hHeld => ?_)
      clear hK K
      refine norm_ (a' := ?_) ?_ ?_
      rotate_left
      · show Act.put _ (some 28) _ = _
        simp only [pu_]
        rfl
      refine pure_ (i := 6) (N := some 29) (v := ?_) (a' := ?_) #[true, true, true, true, true, true, true, false, false, false, false] rfl rfl (by kernel_rfl) (fun _ _ _ h => h) (Or.inl ⟨by rfl, ?_⟩) ?_ ?_
      rotate_left
      · intro w'
        go_simp
        with_reducible rfl
      rotate_left
      · simp only [pu_]
        rfl
      refine one_ (i := 7) (N := some 30) #[true, true, true, true, true, true, true, true, false, false, false] rfl rfl (by kernel_rfl) (by decide) (fun K hK => ?_)
      refine value_ (v := .slice (some ⟨w6.heap.size, 0, none⟩) 1 1) (w1 := w6.alloc (.cells #[.string (rText 8192 x.2).1, .string (rText 8192 (rText 8192 x.2).2).1] 37)) (by rfl) rfl ?_ ?_
      · go_simp
      refine hK.out _ _ ((World.cell?_alloc_lt _ _ _ (blk_lt A6.out.box)).trans ((blk_cell A6.out.box 2).trans rfl)) (fun hHeld => ?_)
      clear hK K
      refine norm_ (a' := ?_) ?_ ?_
      rotate_left
      · show Act.put _ (some 30) _ = _
        simp only [pu_]
        rfl
      refine one_ (i := 8) (N := some 31) #[true, true, true, true, true, true, true, true, true, false, false] rfl rfl (by kernel_rfl) (by decide) (fun K hK => ?_)
      refine Kd.R_append_step k37 (w0 := w6) w.heap.size (by rfl) (.tmp 24) (.tmp 30) 22 37 (.agg #[(.string ⟨#[]⟩), (.string ⟨#[]⟩)]) 32 rfl Tryd.underlying22 info_lab rfl (by decide) (by omega) v x.1 ⟨(rText 8192 x.2).1, (rText 8192 (rText 8192 x.2).2).1⟩ [.string (rText 8192 x.2).1, .string (rText 8192 (rText 8192 x.2).2).1] (fun k => g < k) (fun _ => False) (by rfl) (by rfl) (k37_mkM _ _ _ _) (fun _ h => h.elim) (fun k hk => Nat.lt_of_lt_of_le A6.out.rd.lt hk) A6.out.labs (Below.refl _ _) A6.out.old.size (by have := HXL.out; omega) ?_
      intro v1 w7 hR7 hb7 hg7 hat7
      obtain ⟨A7_, c7_, rfl⟩ := Kd.R_slice hR7
      generalize (x.1 ++ [(⟨(rText 8192 x.2).1, (rText 8192 (rText 8192 x.2).2).1⟩ : Lab)]).length = n7 at hR7 ⊢
      have A7 := Aside0.mk (A6.out.growL hR7 hg7)
      clear hR7 hb7 hg7 hat7 A6
      refine hK.out _ _ ((blk_cell A7.out.box 2).trans rfl) (fun hHeld => ?_)
      clear hK K
      refine norm_ (a' := ?_) ?_ ?_
      rotate_left
      · show Act.put _ (some 31) _ = _
        simp only [pu_]
        rfl
      refine pure_ (i := 9) (N := some 32) (v := ?_) (a' := ?_) #[true, true, true, true, true, true, true, true, true, true, false] rfl rfl (by kernel_rfl) (fun _ _ _ h => h) (Or.inl ⟨by rfl, ?_⟩) ?_ ?_
      rotate_left
      · intro w'
        go_simp
        with_reducible rfl
      rotate_left
      · simp only [pu_]
        rfl
      refine last_ (i := 10) (N := none) #[true, true, true, true, true, true, true, true, true, true, true] rfl rfl (by kernel_rfl) (by decide) (fun K hK => ?_)
      have hcs := (blk_cell A7.out.box 2).trans rfl
      have hfs := A7.out.frozen 2
      refine skip_ (w1 := ?_) (by rfl) rfl ?_ ?_
      rotate_left
      · go_simp
        rfl
      refine hK.out _ _ ?_
      clear hK K
      refine done_ (by kernel_rfl) ?_
      have A8 := Aside0.mk (A7.out.set 2 (.slice A7_ n7 c7_) #[.string pa, .string na, .slice A7_ n7 c7_, .int .i64 0, .int .i64 0, .slice none 0 0, .int .i64 0] rfl)
      go_wp2
      go_roundg gg
      case measure => omega
      case rel => exact ⟨k + 1, _, by go_num, ⟨by have := HK.out; omega⟩, ⟨by rw [HS.out]; exact A8.out⟩⟩
    | zero =>
      have b1 : decide ((k : Int) < (nl : Int)) = false := decide_eq_false (by omega)
      have b2 : decide (k < nl) = false := decide_eq_false (by omega)
      have hk : k = nl := by omega
      have hLs : rMany rLab k (cL (st0 s)).2 = rLs (st0 s) := by unfold rLs; rw [hk, HNL.out]
      rw [hLs] at AR
      clear hk hLs hkg
      have HPR := Lib.hid (show rByte (rLs (st0 s)).2 = rPr (st0 s) from rfl)
      have HDL := Lib.hid (show rNum (rPr (st0 s)).2 = rDl (st0 s) from rfl)
      obtain ⟨y0, y1⟩ := AR.out.rd.byte_bound HBY.out
      rw [HPR.out] at y0 y1
      have c3_ := (blk_cell AR.out.box 3).trans rfl
      have f3_ := AR.out.frozen 3
      go_upto_region 8 with (first
        | (go_at_call 40; (with_reducible refine (byte_rd AR.out.rd HLN.out).mono ?_); rintro e w7 ⟨rfl, k7⟩; rw [HPR.out]; rw [HPR.out] at k7; have A7 := Aside0.mk (AR.out.step k7); clear k7)
        | (go_at_call 41; (with_reducible refine (number_rd A7.out.rd HBY.out HLN.out).mono ?_); rintro e w8 ⟨rfl, k8⟩; rw [HDL.out]; rw [HDL.out] at k8; have A8 := Aside0.mk (A7.out.step k8); clear k8; have c3b := (blk_cell A8.out.box 3).trans rfl; have c4b := (blk_cell A8.out.box 4).trans rfl; have f3b := A8.out.frozen 3; have f4b := A8.out.frozen 4))
      have A9 := Aside0.mk ((A8.out.set 3 (.int .i64 (rPr (st0 s)).1) #[.string pa, .string na, v, .int .i64 (rPr (st0 s)).1, .int .i64 0, .slice none 0 0, .int .i64 0] rfl).set 4 (.int .i64 (rDl (st0 s)).1) #[.string pa, .string na, v, .int .i64 (rPr (st0 s)).1, .int .i64 (rDl (st0 s)).1, .slice none 0 0, .int .i64 0] rfl)
      clear c3_ f3_ c3b c4b f3b f4b AR A7 A8
      generalize World.setCell _ _ _ = w9 at A9 ⊢
      have HN8 := Lib.hid (count_le 8 (rDl (st0 s)).2)
      have HCP := Lib.hid (show rCount 8 (rDl (st0 s)).2 = cP (st0 s) from rfl)
      rw [HCP.out] at HN8
      go_wp2_with (go_at_call 39; (with_reducible refine (count8 A9.out.rd HBY.out HLN.out).mono ?_); rintro e w10 ⟨rfl, k6⟩; rw [HCP.out]; rw [HCP.out] at k6; have A10 := Aside0.mk (A9.out.step k6); clear k6 A9)
      obtain ⟨np, hnp⟩ : ∃ np, np = (cP (st0 s)).1 := ⟨_, rfl⟩
      rw [← hnp] at HN8 ⊢
      have HNP := Lib.hid hnp
      clear hnp
      obtain ⟨pr, hpr⟩ : ∃ pr, pr = (rPr (st0 s)).1 := ⟨_, rfl⟩
      obtain ⟨dl, hdl⟩ : ∃ dl, dl = (rDl (st0 s)).1 := ⟨_, rfl⟩
      rw [← hpr] at y0 y1 A10 ⊢
      rw [← hdl] at A10 ⊢
      have HPR2 := Lib.hid hpr
      have HDL2 := Lib.hid hdl
      clear hpr hdl
      go_loopg [43] np (fun gg v43 wr => ∃ (j : Nat) (vp : Value), v43 = .int .i64 (j : Int) ∧ Aside0 (j + gg = np) ∧ Aside0 (DeS w0 w g ro bo (bytesOf s) wr #[.string pa, .string na, v, .int .i64 pr, .int .i64 dl, vp, .int .i64 0] v (rLs (st0 s)).1 vp (rMany rPart j (cP (st0 s)).2).1 (rMany rPart j (cP (st0 s)).2).2))
      case atStart => exact ⟨0, _, rfl, ⟨by omega⟩, A10⟩
      case round =>
        clear A10
        obtain ⟨j, vp, rfl, HJ, AR⟩ := hrel
        have hjg := HJ.out
        cases gk with
        | succ gg =>
          have b1 : decide ((j : Int) < (np : Int)) = true := decide_eq_true (by omega)
          have b2 : decide (j < np) = true := decide_eq_true (by omega)
          have hk63 : (j : Int) + 1 ≤ 9223372036854775807 := by have := HN8.out; omega
          have HS := Lib.hid (show rMany rPart (j + 1) (cP (st0 s)).2 = ((rMany rPart j (cP (st0 s)).2).1 ++ [(rPart (rMany rPart j (cP (st0 s)).2).2).1], (rPart (rMany rPart j (cP (st0 s)).2).2).2) from rfl)
          have HXL := Lib.hid (show (rMany rPart j (cP (st0 s)).2).1.length ≤ 8 by rw [rMany_len]; have := HN8.out; omega)
          clear hjg
          generalize rMany rPart j (cP (st0 s)).2 = x at AR HS HXL
          go_upto_region 10 with fail
          refine start_ (n := 13) (S := fun w' => w'.cell? ⟨bo, 5, none⟩ = some vp) (ds := [12]) #[false, false, false, false, false, false, false, false, false, false, false, false, false] (by kernel_rfl) rfl rfl ((blk_cell AR.out.box 5).trans rfl) (fun hHeld => ?_)
          have AD := Aside0.mk (AR.out.quiet (drew_below wr))
          clear AR
          generalize wr.drew = wd at AD hHeld ⊢
          refine pure_ (i := 0) (N := some 45) (v := ?_) (a' := ?_) #[true, false, false, false, false, false, false, false, false, false, false, false, false] rfl rfl (by kernel_rfl) (fun _ _ _ h => h) (Or.inl ⟨by rfl, ?_⟩) ?_ ?_
          rotate_left
          · intro w'
            go_simp
            with_reducible rfl
          rotate_left
          · simp only [pu_]
            rfl
          refine take_ (i := 1) (N := some 46) (v := ?_) (a' := ?_) #[true, true, false, false, false, false, false, false, false, false, false, false, false] rfl rfl (by kernel_rfl) (fun _ _ _ h => h) (Or.inl ⟨by rfl, ?_⟩) hHeld ?_ ?_
          rotate_left
          · rintro w' s0
            go_simp
            with_reducible rfl
          rotate_left
          · simp only [pu_]
            rfl
          refine pure_ (i := 2) (N := some 47) (v := ?_) (a' := ?_) #[true, true, true, false, false, false, false, false, false, false, false, false, false] rfl rfl (by kernel_rfl) (fun _ _ _ h => h) (Or.inl ⟨by rfl, ?_⟩) ?_ ?_
          rotate_left
          · intro w'
            go_simp
            with_reducible rfl
          rotate_left
          · simp only [pu_]
            rfl
          refine pure_ (i := 4) (N := some 49) (v := ?_) (a' := ?_) #[true, true, true, false, true, false, false, false, false, false, false, false, false] rfl rfl (by kernel_rfl) (fun _ _ _ h => h) (Or.inl ⟨by rfl, ?_⟩) ?_ ?_
          rotate_left
          · intro w'
            go_simp
            with_reducible rfl
          rotate_left
          · simp only [pu_]
            rfl
          refine pure_ (i := 6) (N := some 51) (v := ?_) (a' := ?_) #[true, true, true, false, true, false, true, false, false, false, false, false, false] rfl rfl (by kernel_rfl) (fun _ _ _ h => h) (Or.inl ⟨by rfl, ?_⟩) ?_ ?_
          rotate_left
          · intro w'
            go_simp
            with_reducible rfl
          rotate_left
          · simp only [pu_]
            rfl
          refine one_ (i := 3) (N := some 48) #[true, true, true, true, true, false, true, false, false, false, false, false, false] rfl rfl (by kernel_rfl) (by decide) (fun K hK => ?_)
          refine goes_ Tryd.func38 (by kernel_rfl) rfl #[.pointer (some ⟨g, 0, none⟩), .int .i64 8192] (by rfl) rfl rfl (by (try simp only [List.map_toArray, List.map_cons, List.map_nil]); first | done | rfl) ?_
          refine (text8k AD.out.rd HBY.out HLN.out).mono ?_
          rintro e w11 ⟨rfl, k5⟩
          have A5 := Aside0.mk (AD.out.step k5)
          clear k5 AD
          refine ⟨_, rfl, ?_⟩
          refine hK.out _ _ (((blk_cell A5.out.box 5).trans rfl)) (fun hHeld => ?_)
          clear hK K
          refine norm_ (a' := ?_) ?_ ?_
          rotate_left
          · show Act.put _ (some 48) _ = _
            simp only [pu_]
            rfl
          refine one_ (i := 5) (N := some 50) #[true, true, true, true, true, true, true, false, false, false, false, false, false] rfl rfl (by kernel_rfl) (by decide) (fun K hK => ?_)
          refine goes_ Tryd.func42 (by kernel_rfl) rfl #[.pointer (some ⟨g, 0, none⟩)] (by rfl) rfl rfl (by (try simp only [List.map_toArray, List.map_cons, List.map_nil]); first | done | rfl) ?_
          refine (amounts_rd A5.out.rd HBY.out HLN.out).mono ?_
          rintro e w12 ⟨v1, rfl, hr1, k6⟩
          obtain ⟨q1, d1, rfl⟩ := Kd.R_slice hr1
          have A6 := Aside0.mk (A5.out.step k6)
          have HS56 := Aside0.mk k6.keep.1
          have RW1 := Aside0.mk hr1
          clear k6 hr1
          refine ⟨_, rfl, ?_⟩
          refine hK.out _ _ (((blk_cell A6.out.box 5).trans rfl)) (fun hHeld => ?_)
          clear hK K
          refine norm_ (a' := ?_) ?_ ?_
          rotate_left
          · show Act.put _ (some 50) _ = _
            simp only [pu_]
            rfl
          refine one_ (i := 7) (N := some 52) #[true, true, true, true, true, true, true, true, false, false, false, false, false] rfl rfl (by kernel_rfl) (by decide) (fun K hK => ?_)
          refine goes_ Tryd.func42 (by kernel_rfl) rfl #[.pointer (some ⟨g, 0, none⟩)] (by rfl) rfl rfl (by (try simp only [List.map_toArray, List.map_cons, List.map_nil]); first | done | rfl) ?_
          refine (amounts_rd A6.out.rd HBY.out HLN.out).mono ?_
          rintro e w13 ⟨v2, rfl, hr2, k7⟩
          obtain ⟨q2, d2, rfl⟩ := Kd.R_slice hr2
          have A7 := Aside0.mk (A6.out.step k7)
          have RW2 := Aside0.mk hr2
          have RX1 := Aside0.mk (Kd.R_keep RW1.out k7.keep (fun k hk => by have := A5.out.rd.lt; omega))
          clear k7 hr2 RW1
          refine ⟨_, rfl, ?_⟩
          refine hK.out _ _ (((blk_cell A7.out.box 5).trans rfl)) (fun hHeld => ?_)
          clear hK K
          refine norm_ (a' := ?_) ?_ ?_
          rotate_left
          · show Act.put _ (some 52) _ = _
            simp only [pu_]
            rfl
          refine pure_ (i := 8) (N := some 53) (v := ?_) (a' := ?_) #[true, true, true, true, true, true, true, true, true, false, false, false, false] rfl rfl (by kernel_rfl) (fun _ _ _ h => h) (Or.inl ⟨by rfl, ?_⟩) ?_ ?_
          rotate_left
          · intro w'
            go_simp
            with_reducible rfl
          rotate_left
          · simp only [pu_]
            rfl
          refine one_ (i := 9) (N := some 54) #[true, true, true, true, true, true, true, true, true, true, false, false, false] rfl rfl (by kernel_rfl) (by decide) (fun K hK => ?_)
          refine value_ (v := .slice (some ⟨w13.heap.size, 0, none⟩) 1 1) (w1 := w13.alloc (.cells #[.string (rText 8192 x.2).1, .slice q1 (rAmts (rText 8192 x.2).2).1.length d1, .slice q2 (rAmts (rAmts (rText 8192 x.2).2).2).1.length d2] 35)) (by rfl) rfl ?_ ?_
          · go_simp
          refine hK.out _ _ ((World.cell?_alloc_lt _ _ _ (blk_lt A7.out.box)).trans ((blk_cell A7.out.box 5).trans rfl)) (fun hHeld => ?_)
          clear hK K
          refine norm_ (a' := ?_) ?_ ?_
          rotate_left
          · show Act.put _ (some 54) _ = _
            simp only [pu_]
            rfl
          refine one_ (i := 10) (N := some 55) #[true, true, true, true, true, true, true, true, true, true, true, false, false] rfl rfl (by kernel_rfl) (by decide) (fun K hK => ?_)
          have hlt5 := Kd.R_lt A5.out.parts
          have hrd5 := A5.out.rd.lt
          have hrd6 := A6.out.rd.lt
          have hs56 := HS56.out
          refine Kd.R_append_step k35 (w0 := w13) w.heap.size (by rfl) (.tmp 46) (.tmp 54) 23 35 (.agg #[(.string ⟨#[]⟩), (.slice none 0 0), (.slice none 0 0)]) 64 rfl Tryd.underlying23 info35 rfl (by decide) (by omega) vp x.1 ⟨(rText 8192 x.2).1, (rAmts (rText 8192 x.2).2).1, (rAmts (rAmts (rText 8192 x.2).2).2).1⟩ [.string (rText 8192 x.2).1, .slice q1 (rAmts (rText 8192 x.2).2).1.length d1, .slice q2 (rAmts (rAmts (rText 8192 x.2).2).2).1.length d2] (fun k => g < k) (fun k => g < k ∧ some k ≠ vp.ownBlock) (by rfl) (by rfl) (k35_mkM _ _ _ _ (Kd.R_mono (Kd.R_lower RX1.out (Nat.le_trans A5.out.old.size (Nat.le_refl _))) (fun k hk => ⟨by omega, fun e => by have := hlt5 k e.symm; omega⟩)) (Kd.R_mono (Kd.R_lower RW2.out A6.out.old.size) (fun k hk => ⟨by omega, fun e => by have := hlt5 k e.symm; omega⟩))) (fun _ h => h) (fun k hk => Nat.lt_of_lt_of_le A7.out.rd.lt hk) A7.out.parts (Below.refl _ _) A7.out.old.size (by have := HXL.out; omega) ?_
          intro v3 w14 hR7 hb7 hg7 hat7
          obtain ⟨q3, d3, rfl⟩ := Kd.R_slice hR7
          generalize (x.1 ++ [(⟨(rText 8192 x.2).1, (rAmts (rText 8192 x.2).2).1, (rAmts (rAmts (rText 8192 x.2).2).2).1⟩ : Prt)]).length = n7 at hR7 ⊢
          have A8 := Aside0.mk (A7.out.growP hR7 hg7)
          clear hR7 hb7 hg7 hat7 A7 A6 A5 RX1 RW2 hlt5 hrd5 hrd6 hs56 HS56
          refine hK.out _ _ ((blk_cell A8.out.box 5).trans rfl) (fun hHeld => ?_)
          clear hK K
          refine norm_ (a' := ?_) ?_ ?_
          rotate_left
          · show Act.put _ (some 55) _ = _
            simp only [pu_]
            rfl
          refine pure_ (i := 11) (N := some 56) (v := ?_) (a' := ?_) #[true, true, true, true, true, true, true, true, true, true, true, true, false] rfl rfl (by kernel_rfl) (fun _ _ _ h => h) (Or.inl ⟨by rfl, ?_⟩) ?_ ?_
          rotate_left
          · intro w'
            go_simp
            with_reducible rfl
          rotate_left
          · simp only [pu_]
            rfl
          refine last_ (i := 12) (N := none) #[true, true, true, true, true, true, true, true, true, true, true, true, true] rfl rfl (by kernel_rfl) (by decide) (fun K hK => ?_)
          have hcs := (blk_cell A8.out.box 5).trans rfl
          have hfs := A8.out.frozen 5
          refine skip_ (w1 := ?_) (by rfl) rfl ?_ ?_
          rotate_left
          · go_simp
            rfl
          refine hK.out _ _ ?_
          clear hK K
          refine done_ (by kernel_rfl) ?_
          have A9 := Aside0.mk (A8.out.set 5 (.slice q3 n7 d3) #[.string pa, .string na, v, .int .i64 pr, .int .i64 dl, .slice q3 n7 d3, .int .i64 0] rfl)
          go_wp2
          go_roundg gg
          case measure => omega
          case rel => exact ⟨j + 1, _, by go_num, ⟨by have := HJ.out; omega⟩, ⟨by rw [HS.out]; exact A9.out⟩⟩
        | zero =>
          have b1 : decide ((j : Int) < (np : Int)) = false := decide_eq_false (by omega)
          have b2 : decide (j < np) = false := decide_eq_false (by omega)
          have hj : j = np := by omega
          have hPs : rMany rPart j (cP (st0 s)).2 = rPs (st0 s) := by unfold rPs; rw [hj, HNP.out]
          rw [hPs] at AR
          clear hj hPs hjg
          have HVR := Lib.hid (show rNum (rPs (st0 s)).2 = rVr (st0 s) from rfl)
          have c6_ := (blk_cell AR.out.box 6).trans rfl
          have f6_ := AR.out.frozen 6
          go_upto_region 13 with (go_at_call 41; (with_reducible refine (number_rd AR.out.rd HBY.out HLN.out).mono ?_); rintro e w15 ⟨rfl, k8⟩; rw [HVR.out]; rw [HVR.out] at k8; have A8 := Aside0.mk (AR.out.step k8); clear k8; have c6b := (blk_cell A8.out.box 6).trans rfl; have f6b := A8.out.frozen 6)
          obtain ⟨ve, hve⟩ : ∃ ve, ve = (rVr (st0 s)).1 := ⟨_, rfl⟩
          rw [← hve]
          have HVE := Lib.hid hve
          clear hve
          have A9 := Aside0.mk (A8.out.set 6 (.int .i64 ve) #[.string pa, .string na, v, .int .i64 pr, .int .i64 dl, vp, .int .i64 ve] rfl)
          clear c6_ f6_ c6b f6b AR A8
          generalize World.setCell _ _ _ = w16 at A9 ⊢
          have hL := (Glob.below GL.out A9.out.old).letterO
          have HD := Lib.hid (show (decO (st0 s)) = (⟨pa, na, (rLs (st0 s)).1, pr, dl, (rPs (st0 s)).1, ve⟩, (rVr (st0 s)).2) by rw [HPA.out, HNA.out, HPR2.out, HDL2.out, HVE.out]; rfl)
          by_cases hlt : letterOf s = 79
          rotate_left
          · have HBAD := Lib.hid (show goodD s = false by unfold goodD; rw [decide_eq_false hlt, Bool.false_and])
            have t1 : (letterOf s != 79) = true := by rw [bne_iff_ne]; exact hlt
            have t2 : (letterOf s == 79) = false := beq_eq_false_iff_ne.2 hlt
            have r0_ := (blk_cell A9.out.res 0).trans rfl
            have t0_ := blk_frozen A9.out.res 0
            have r1_ := (blk_cell A9.out.res 1).trans rfl
            have t1_ := blk_frozen A9.out.res 1
            have r2_ := (blk_cell A9.out.res 2).trans rfl
            have t2_ := blk_frozen A9.out.res 2
            have r3_ := (blk_cell A9.out.res 3).trans rfl
            have t3_ := blk_frozen A9.out.res 3
            have r4_ := (blk_cell A9.out.res 4).trans rfl
            have t4_ := blk_frozen A9.out.res 4
            have r5_ := (blk_cell A9.out.res 5).trans rfl
            have t5_ := blk_frozen A9.out.res 5
            have r6_ := (blk_cell A9.out.res 6).trans rfl
            have t6_ := blk_frozen A9.out.res 6
            clear hlt
            go_wp2
            have F9 := Aside0.mk (A9.out.fin (KeepBut.refl _ _ _) A9.out.rd.below)
            have FZ := Aside0.mk (F9.out.put (.string ⟨#[]⟩) (.string ⟨#[]⟩) (.slice none 0 0) (.int .i64 0) (.int .i64 0) (.slice none 0 0) (.int .i64 0))
            clear r0_ t0_ r1_ t1_ r2_ t2_ r3_ t3_ r4_ t4_ r5_ t5_ r6_ t6_
            unfold put7 at FZ
            generalize World.setCell _ _ _ = wz at FZ ⊢
            (try simp only [Exit.inBlock, Exit.then])
            refine bodyPost_ret (results_cell_row_tmp rfl _ _ ro 25 _ (0, 0) _ rfl FZ.out.res hu25 rfl (by kernel_rfl)) rfl ?_
            have hz : decR s = zeroR := by unfold decR; rw [if_neg (by rw [HBAD.out]; decide)]
            have he : decE s = 2 := by unfold decE; rw [if_neg (by rw [HBAD.out]; decide)]
            rw [hz, he]
            exact ⟨.slice none 0 0, .slice none 0 0, rfl, Kd.R_nil _ _ _ _ _, Kd.R_nil _ _ _ _ _, FZ.out.old⟩
          have HLT := Lib.hid hlt
          have t1 : (letterOf s != 79) = false := by rw [hlt]; rfl
          have t2 : (letterOf s == 79) = true := by rw [hlt]; rfl
          clear hlt
          have KE := Lib.hid (end_rd A9.out.rd HLN.out)
          by_cases hend : (rVr (st0 s)).2 = some []
          rotate_left
          · have HBAD := Lib.hid (show goodD s = false by unfold goodD; rw [HD.out]; simp only; rw [decide_eq_false hend, Bool.false_and, Bool.and_false])
            have HEND := Lib.hid hend
            clear hend
            go_upto_region 14 with (go_at_call 43; (with_reducible refine KE.out.mono ?_); rintro e w17 ⟨r, rfl, hr, k9, k10⟩; have hr0 : r ≠ 0 := fun e => HEND.out (hr.1 e); have u1 : (r != 0) = true := (by rw [bne_iff_ne]; exact hr0); have u2 : (r == 0) = false := beq_eq_false_iff_ne.2 hr0; have F9 := Aside0.mk (A9.out.fin k9 k10); clear hr k9 k10 hr0)
            have r0_ := (blk_cell F9.out.res 0).trans rfl
            have t0_ := blk_frozen F9.out.res 0
            have r1_ := (blk_cell F9.out.res 1).trans rfl
            have t1_ := blk_frozen F9.out.res 1
            have r2_ := (blk_cell F9.out.res 2).trans rfl
            have t2_ := blk_frozen F9.out.res 2
            have r3_ := (blk_cell F9.out.res 3).trans rfl
            have t3_ := blk_frozen F9.out.res 3
            have r4_ := (blk_cell F9.out.res 4).trans rfl
            have t4_ := blk_frozen F9.out.res 4
            have r5_ := (blk_cell F9.out.res 5).trans rfl
            have t5_ := blk_frozen F9.out.res 5
            have r6_ := (blk_cell F9.out.res 6).trans rfl
            have t6_ := blk_frozen F9.out.res 6
            go_wp2
            have FZ := Aside0.mk (F9.out.put (.string ⟨#[]⟩) (.string ⟨#[]⟩) (.slice none 0 0) (.int .i64 0) (.int .i64 0) (.slice none 0 0) (.int .i64 0))
            clear r0_ t0_ r1_ t1_ r2_ t2_ r3_ t3_ r4_ t4_ r5_ t5_ r6_ t6_
            unfold put7 at FZ
            generalize World.setCell _ _ _ = wz at FZ ⊢
            (try simp only [Exit.inBlock, Exit.then])
            refine bodyPost_ret (results_cell_row_tmp rfl _ _ ro 25 _ (0, 0) _ rfl FZ.out.res hu25 rfl (by kernel_rfl)) rfl ?_
            have hz : decR s = zeroR := by unfold decR; rw [if_neg (by rw [HBAD.out]; decide)]
            have he : decE s = 2 := by unfold decE; rw [if_neg (by rw [HBAD.out]; decide)]
            rw [hz, he]
            exact ⟨.slice none 0 0, .slice none 0 0, rfl, Kd.R_nil _ _ _ _ _, Kd.R_nil _ _ _ _ _, FZ.out.old⟩
          have HEND := Lib.hid hend
          clear hend
          obtain ⟨al, cl, rfl⟩ := Kd.R_slice A9.out.labs
          obtain ⟨ap, cp, rfl⟩ := Kd.R_slice A9.out.parts
          have hsm : SmallP (rPs (st0 s)).1 := small_parts _ _
          have HSM := Lib.hid hsm
          clear hsm
          generalize (rLs (st0 s)).1 = ls at A9 HD ⊢
          generalize (rPs (st0 s)).1 = ps at A9 HD HSM ⊢
          have KEN := Lib.hid (fun W (h1 : Kd.R k37 37 W w.heap.size (fun k => g < k) (.slice al ls.length cl) ls) (h2 : Kd.R k35 35 W w.heap.size (fun k => g < k) (.slice ap ps.length cp) ps) (hg : Glob W) => encode_ok pa na al cl ls pr dl ap cp ps ve W (Kd.R_reads' h1).2.2 (Kd.R_reads' h1).2.1 (Kd.R_reads' h2).2.2 (Kd.R_reads' h2).2.1 HSM.out hg)
          go_upto_region 15 with (go_at_call 43; (with_reducible refine KE.out.mono ?_); rintro e w17 ⟨r, rfl, hr, k9, k10⟩; obtain rfl : r = 0 := hr.2 HEND.out; have F9 := Aside0.mk (A9.out.fin k9 k10); clear hr k9 k10)
          have b0_ := (blk_cell F9.out.box 0).trans rfl
          have b1_ := (blk_cell F9.out.box 1).trans rfl
          have b2_ := (blk_cell F9.out.box 2).trans rfl
          have b3_ := (blk_cell F9.out.box 3).trans rfl
          have b4_ := (blk_cell F9.out.box 4).trans rfl
          have b5_ := (blk_cell F9.out.box 5).trans rfl
          have b6_ := (blk_cell F9.out.box 6).trans rfl
          go_upto_region 16 with (go_at_call 9; (with_reducible refine (KEN.out _ F9.out.labs F9.out.parts (Glob.below GL.out F9.out.old)).mono ?_); rintro e w18 ⟨rfl, hb⟩; have F10 := Aside0.mk (F9.out.quiet hb); clear hb)
          clear b0_ b1_ b2_ b3_ b4_ b5_ b6_
          obtain ⟨en, hen⟩ : ∃ en, en = encR pa na ls pr dl ps ve := ⟨_, rfl⟩
          rw [← hen]
          have HEN := Lib.hid hen
          clear hen
          by_cases hgd : en = (s, 0)
          rotate_left
          · have HBAD := Lib.hid (show goodD s = false by unfold goodD; rw [HD.out]; simp only; rw [← HEN.out, decide_eq_false hgd, Bool.and_false, Bool.and_false])
            have r0_ := (blk_cell F10.out.res 0).trans rfl
            have t0_ := blk_frozen F10.out.res 0
            have r1_ := (blk_cell F10.out.res 1).trans rfl
            have t1_ := blk_frozen F10.out.res 1
            have r2_ := (blk_cell F10.out.res 2).trans rfl
            have t2_ := blk_frozen F10.out.res 2
            have r3_ := (blk_cell F10.out.res 3).trans rfl
            have t3_ := blk_frozen F10.out.res 3
            have r4_ := (blk_cell F10.out.res 4).trans rfl
            have t4_ := blk_frozen F10.out.res 4
            have r5_ := (blk_cell F10.out.res 5).trans rfl
            have t5_ := blk_frozen F10.out.res 5
            have r6_ := (blk_cell F10.out.res 6).trans rfl
            have t6_ := blk_frozen F10.out.res 6
            by_cases he0 : en.2 = 0
            · have u1 : (en.2 != 0) = false := by rw [he0]; rfl
              have u2 : (en.2 == 0) = true := by rw [he0]; rfl
              have hes : ¬ en.1 = s := fun e => hgd (Prod.ext e he0)
              have u3 : (en.1.toList == s.toList) = false := beq_f hes
              have u4 : (en.1.toList != s.toList) = true := by unfold bne; rw [u3]; rfl
              clear he0 hes hgd
              go_wp2
              have FZ := Aside0.mk (F10.out.put (.string ⟨#[]⟩) (.string ⟨#[]⟩) (.slice none 0 0) (.int .i64 0) (.int .i64 0) (.slice none 0 0) (.int .i64 0))
              clear r0_ t0_ r1_ t1_ r2_ t2_ r3_ t3_ r4_ t4_ r5_ t5_ r6_ t6_
              unfold put7 at FZ
              generalize World.setCell _ _ _ = wz at FZ ⊢
              (try simp only [Exit.inBlock, Exit.then])
              refine bodyPost_ret (results_cell_row_tmp rfl _ _ ro 25 _ (0, 0) _ rfl FZ.out.res hu25 rfl (by kernel_rfl)) rfl ?_
              have hz : decR s = zeroR := by unfold decR; rw [if_neg (by rw [HBAD.out]; decide)]
              have he : decE s = 2 := by unfold decE; rw [if_neg (by rw [HBAD.out]; decide)]
              rw [hz, he]
              exact ⟨.slice none 0 0, .slice none 0 0, rfl, Kd.R_nil _ _ _ _ _, Kd.R_nil _ _ _ _ _, FZ.out.old⟩
            · have u1 : (en.2 != 0) = true := by rw [bne_iff_ne]; exact he0
              have u2 : (en.2 == 0) = false := beq_eq_false_iff_ne.2 he0
              clear he0 hgd
              go_wp2
              have FZ := Aside0.mk (F10.out.put (.string ⟨#[]⟩) (.string ⟨#[]⟩) (.slice none 0 0) (.int .i64 0) (.int .i64 0) (.slice none 0 0) (.int .i64 0))
              clear r0_ t0_ r1_ t1_ r2_ t2_ r3_ t3_ r4_ t4_ r5_ t5_ r6_ t6_
              unfold put7 at FZ
              generalize World.setCell _ _ _ = wz at FZ ⊢
              (try simp only [Exit.inBlock, Exit.then])
              refine bodyPost_ret (results_cell_row_tmp rfl _ _ ro 25 _ (0, 0) _ rfl FZ.out.res hu25 rfl (by kernel_rfl)) rfl ?_
              have hz : decR s = zeroR := by unfold decR; rw [if_neg (by rw [HBAD.out]; decide)]
              have he : decE s = 2 := by unfold decE; rw [if_neg (by rw [HBAD.out]; decide)]
              rw [hz, he]
              exact ⟨.slice none 0 0, .slice none 0 0, rfl, Kd.R_nil _ _ _ _ _, Kd.R_nil _ _ _ _ _, FZ.out.old⟩
          have HGD := Lib.hid (show goodD s = true by unfold goodD; rw [HD.out]; simp only; rw [← HEN.out, decide_eq_true hgd, decide_eq_true HEND.out, decide_eq_true HLT.out]; rfl)
          subst hgd
          have u3 : (s.toList == s.toList) = true := beq_t rfl
          have u4 : (s.toList != s.toList) = false := by unfold bne; rw [u3]; rfl
          have b0_ := (blk_cell F10.out.box 0).trans rfl
          have b1_ := (blk_cell F10.out.box 1).trans rfl
          have b2_ := (blk_cell F10.out.box 2).trans rfl
          have b3_ := (blk_cell F10.out.box 3).trans rfl
          have b4_ := (blk_cell F10.out.box 4).trans rfl
          have b5_ := (blk_cell F10.out.box 5).trans rfl
          have b6_ := (blk_cell F10.out.box 6).trans rfl
          have r0_ := (blk_cell F10.out.res 0).trans rfl
          have t0_ := blk_frozen F10.out.res 0
          have r1_ := (blk_cell F10.out.res 1).trans rfl
          have t1_ := blk_frozen F10.out.res 1
          have r2_ := (blk_cell F10.out.res 2).trans rfl
          have t2_ := blk_frozen F10.out.res 2
          have r3_ := (blk_cell F10.out.res 3).trans rfl
          have t3_ := blk_frozen F10.out.res 3
          have r4_ := (blk_cell F10.out.res 4).trans rfl
          have t4_ := blk_frozen F10.out.res 4
          have r5_ := (blk_cell F10.out.res 5).trans rfl
          have t5_ := blk_frozen F10.out.res 5
          have r6_ := (blk_cell F10.out.res 6).trans rfl
          have t6_ := blk_frozen F10.out.res 6
          go_wp2
          have FZ := Aside0.mk (F10.out.put (.string pa) (.string na) (.slice al ls.length cl) (.int .i64 pr) (.int .i64 dl) (.slice ap ps.length cp) (.int .i64 ve))
          clear r0_ t0_ r1_ t1_ r2_ t2_ r3_ t3_ r4_ t4_ r5_ t5_ r6_ t6_
          clear b0_ b1_ b2_ b3_ b4_ b5_ b6_
          unfold put7 at FZ
          generalize World.setCell _ _ _ = wz at FZ ⊢
          (try simp only [Exit.inBlock, Exit.then])
          refine bodyPost_ret (results_cell_row_tmp rfl _ _ ro 25 _ (0, 0) _ rfl FZ.out.res hu25 rfl (by kernel_rfl)) rfl ?_
          have hz : decR s = ⟨pa, na, ls, pr, dl, ps, ve⟩ := by unfold decR; rw [if_pos HGD.out, HD.out]
          have he : decE s = 0 := by unfold decE; rw [if_pos HGD.out]
          rw [hz, he]
          exact ⟨_, _, rfl, Kd.R_mono FZ.out.labs (fun k hk => by have := FZ.out.hg; omega), Kd.R_mono FZ.out.parts (fun k hk => by have := FZ.out.hg; omega), FZ.out.old⟩
def object_DecodeObject.f (s : ByteArray) : Option (ByteArray × ByteArray × List Lab × Int × Int × List Prt × Int × Int) :=
  if s.size < 140737488355328 then some ((decR s).path, (decR s).name, (decR s).labs, (decR s).prio, (decR s).dead, (decR s).parts, (decR s).vers, decE s) else none
theorem object_DecodeObject.calls (s : ByteArray) (r1 r2 : ByteArray) (r3 : List Lab) (r4 r5 : Int) (r6 : List Prt) (r7 r8 : Int) (w : World) (h : object_DecodeObject.f s = some (r1, r2, r3, r4, r5, r6, r7, r8)) (hG : Glob w) :
    Calls Tryd.prog 17 #[.string s] w fun e w' => ∃ v2_ v5_ : Value, e = .returned (.tuple #[.agg #[.string r1, .string r2, v2_, .int .i64 r4, .int .i64 r5, v5_, .int .i64 r7], .int .i64 r8]) ∧ Kd.R k37 37 w' w.heap.size (fun k_ => (w.heap.size ≤ k_)) v2_ r3 ∧ Kd.N k35 35 w' w.heap.size (fun k_ => (w.heap.size ≤ k_) ∧ some k_ ≠ (v2_ : Value).ownBlock) v5_ r6 ∧ Below w.heap.size w w' := by
  unfold object_DecodeObject.f at h
  split at h
  · rename_i hl
    simp only [Option.some.injEq, Prod.mk.injEq] at h
    obtain ⟨rfl, rfl, rfl, rfl, rfl, rfl, rfl, rfl⟩ := h
    refine (decode_ok s w hl hG).mono ?_
    rintro e w' ⟨vl, vp, rfl, h1, h2, h3⟩
    exact ⟨vl, vp, rfl, h1, Kd.R_N (Kd.R_apart' h2 (fun k hk => Kd.R_typed h1 k hk) (by decide)), h3⟩
  · cases h
end Go.Proofs.YtniolbolfclhkaaDoor.Q
