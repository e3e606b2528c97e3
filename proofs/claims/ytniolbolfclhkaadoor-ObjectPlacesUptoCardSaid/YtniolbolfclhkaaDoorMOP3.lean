/- What the statement ObjectPlacesUptoCardSaid rests on, part 3 of 7: walks and plain laws; what of the printer's words it leans on. -/
import Derived.Test.YtniolbolfclhkaaDoorProg
import Derived.Test.YtniolbolfclhkaaDoorMOP1
import Derived.Test.YtniolbolfclhkaaDoorMOP2
import Derived.Below
import Derived.Deep.Draws
import Derived.Deep.AppendLies
import Derived.Maps.AppendAt
import Derived.OwnWalk
import Derived.Laws.BytesArg
import Derived.Laws.MakeOwn
import Derived.Laws.OwnMore
import Derived.Deep.OwnRows
import Derived.Tactics
import Derived.Lib.ConvBytes
import Derived.Laws.Slices
import Derived.WalkKit
import Derived.KernelRfl
import Derived.RowKit3
import Derived.Deep.LoopGhost
import Derived.Deep.QuietTactic
import Derived.BigQuiet
import Derived.WideLaws
import Derived.Deep.DeepCutAuto
import Derived.Deep.CutBlock
import Derived.Deep.RegionHeld3
import Derived.Laws.Rows
import Derived.Lib.AppendStr
import Derived.ArgAppend
import Derived.Laws.IdiomCopy
import Derived.OrdersHeld
import Derived.Laws.BitsLemmas
import Derived.RowKit
import Derived.Lib.Hide
import Derived.Laws.RangeAny
import Derived.Lib.OthersKept
import Derived.Shelf.Strings.Builder1
import Derived.Shelf.Strings.Builder2
import Derived.Shelf.Small.Wraps
import Derived.Shelf.Strings.BuilderF
import Derived.Shelf.Strings.BuilderK
import Derived.Shelf.Utf8.RuneCount
import Derived.Shelf.Strings.Builder2Cap
import Derived.Shelf.Strings.Search1
import Derived.Shelf.Strings.Search2
import Derived.Shelf.Strings.Search3
import Derived.Shelf.Strings.Count
import Derived.Shelf.LaysM
import Derived.Shelf.Strings.Shaped
import Derived.Shelf.Strings.Prefix
import Derived.Shelf.Strings.Split
import Derived.Shelf.Strings.Replace
import Derived.Shelf.Strings.SplitShaped
import Derived.Shelf.Unicode.Decode
import Derived.Shelf.Strings.RuneCount
import Derived.Shelf.Strings.Explode
import Derived.Shelf.Unicode.DecodeSlow
import Derived.Shelf.Unicode.DecodeAny
import Derived.Shelf.Strings.BuilderCap
import Derived.Lib.SplitLaws
namespace Go.Proofs.YtniolbolfclhkaaDoor.Q
open Go.RowKit Go.Proofs.YtniolbolfclhkaaDoorW.PrintWords Go.Proofs.YtniolbolfclhkaaDoorW.PrintLast Go.Proofs.YtniolbolfclhkaaDoorW.PrintMore
attribute [local go_sem] max2_int min2_int max_two min_two max_three min_three max_four min_four   -- for this text's walks alone
set_option linter.unusedVariables false
set_option linter.unusedSimpArgs false
def errW : Option Int → Value
  | none => .nilIface
  | some c => .iface 0 (.int .i64 c)
theorem errW_none : errW none = .nilIface := rfl
theorem errW_some (c : Int) : errW (some c) = .iface 0 (.int .i64 c) := rfl
theorem info5 : (Tryd.prog.info? 5).map (fun i => (i.zero, i.size, i.bytes)) = some (some (.int .u8 0), 1, 1) := by kernel_rfl
theorem info9 : (Tryd.prog.info? 9).map (fun i => (i.zero, i.size, i.bytes)) = some (some (.string ⟨#[]⟩), 1, 16) := by kernel_rfl
theorem info35 : (Tryd.prog.info? 35).map (fun i => (i.zero, i.size, i.bytes)) = some (some (.agg #[(.string ⟨#[]⟩), (.slice none 0 0), (.slice none 0 0)]), 3, 64) := by kernel_rfl
theorem info50 : (Tryd.prog.info? 50).map (fun i => (i.zero, i.size, i.bytes)) = some (some (.agg #[(.string ⟨#[]⟩), (.int .i64 0)]), 2, 24) := by kernel_rfl
structure S37 where
  f0 : ByteArray
  f1 : ByteArray
def z37 : S37 := ⟨(⟨#[]⟩ : ByteArray), (⟨#[]⟩ : ByteArray)⟩
def k37 : Kd S37 := Kd.iso (Kd.pair Kd.string Kd.string) (fun x : S37 => (x.f0, x.f1))
theorem k37_open {w : World} {x : S37} {cs : List Value} (h : k37.K w x cs) : cs = [.string x.f0, .string x.f1] := by
  obtain ⟨_, _, rfl, rfl, rfl⟩ := h
  exact rfl
theorem k37_mkM (w : World) (base : Nat) (ok : Nat → Prop) (x : S37)  : k37.M w base ok x [.string x.f0, .string x.f1] := ⟨[.string x.f0], [.string x.f1], rfl, rfl, rfl⟩
def rd_T37 (xs : List S37) (i : Int) : S37 := xs.getD i.toNat z37
theorem at_T37 {w : World} {A : Option Addr} {n : Nat} {xs : List S37} (h : Kd.C k37 w A n xs) (i : Int) (h0 : 0 ≤ i) (h1 : i < n) : ∃ ad , A = some ad ∧ w.cell? (ad.add (i.toNat * 2)) = some (.string (rd_T37 xs i).f0) ∧ w.cell? ⟨(ad.add (i.toNat * 2)).block, (ad.add (i.toNat * 2)).off + 1, none⟩ = some (.string (rd_T37 xs i).f1) := by
  obtain ⟨ad, c, e, _, hK, hc0⟩ := Kd.C_get h z37 i h0 h1
  have hc : ∀ j u, c[j]? = some u → w.cell? (ad.add (i.toNat * 2 + j)) = some u := hc0
  obtain rfl := k37_open hK
  exact ⟨ad, e, hc 0 _ rfl, by rw [← add_field _ _ 1 (by omega)]; exact hc 1 _ rfl⟩
structure S50 where
  f0 : ByteArray
  f1 : Int
def z50 : S50 := ⟨(⟨#[]⟩ : ByteArray), (0 : Int)⟩
def k50 : Kd S50 := Kd.iso (Kd.pair Kd.string (Kd.int .i64)) (fun x : S50 => (x.f0, x.f1))
theorem k50_open {w : World} {x : S50} {cs : List Value} (h : k50.K w x cs) : cs = [.string x.f0, .int .i64 x.f1] := by
  obtain ⟨_, _, rfl, rfl, rfl⟩ := h
  exact rfl
theorem k50_mkM (w : World) (base : Nat) (ok : Nat → Prop) (x : S50)  : k50.M w base ok x [.string x.f0, .int .i64 x.f1] := ⟨[.string x.f0], [.int .i64 x.f1], rfl, rfl, rfl⟩
def rd_T50 (xs : List S50) (i : Int) : S50 := xs.getD i.toNat z50
theorem at_T50 {w : World} {A : Option Addr} {n : Nat} {xs : List S50} (h : Kd.C k50 w A n xs) (i : Int) (h0 : 0 ≤ i) (h1 : i < n) : ∃ ad , A = some ad ∧ w.cell? (ad.add (i.toNat * 2)) = some (.string (rd_T50 xs i).f0) ∧ w.cell? ⟨(ad.add (i.toNat * 2)).block, (ad.add (i.toNat * 2)).off + 1, none⟩ = some (.int .i64 (rd_T50 xs i).f1) := by
  obtain ⟨ad, c, e, _, hK, hc0⟩ := Kd.C_get h z50 i h0 h1
  have hc : ∀ j u, c[j]? = some u → w.cell? (ad.add (i.toNat * 2 + j)) = some u := hc0
  obtain rfl := k50_open hK
  exact ⟨ad, e, hc 0 _ rfl, by rw [← add_field _ _ 1 (by omega)]; exact hc 1 _ rfl⟩
structure S35 where
  f0 : ByteArray
  f1 : (List S50)
  f2 : (List S50)
def z35 : S35 := ⟨(⟨#[]⟩ : ByteArray), ([] : List S50), ([] : List S50)⟩
def k35 : Kd S35 := Kd.iso (Kd.pair Kd.string (Kd.pair (Kd.slice 50 k50) (Kd.slice 50 k50))) (fun x : S35 => (x.f0, x.f1, x.f2))
theorem k35_open {w : World} {x : S35} {cs : List Value} (h : k35.K w x cs) : ∃ A1 c1 A2 c2, cs = [.string x.f0, .slice A1 x.f1.length c1, .slice A2 x.f2.length c2] ∧ x.f1.length ≤ c1 ∧ k50.C w A1 x.f1.length x.f1 ∧ x.f2.length ≤ c2 ∧ k50.C w A2 x.f2.length x.f2 := by
  obtain ⟨_, _, rfl, rfl, ⟨_, _, rfl, ⟨A1, c1, rfl, l1, g1⟩, ⟨A2, c2, rfl, l2, g2⟩⟩⟩ := h
  exact ⟨A1, c1, A2, c2, rfl, l1, g1, l2, g2⟩
theorem k35_mk (w : World) (x : S35) {A1 : Option Addr} {c1 : Nat} (l1 : x.f1.length ≤ c1) (g1 : k50.C w A1 x.f1.length x.f1) {A2 : Option Addr} {c2 : Nat} (l2 : x.f2.length ≤ c2) (g2 : k50.C w A2 x.f2.length x.f2) : k35.K w x [.string x.f0, .slice A1 x.f1.length c1, .slice A2 x.f2.length c2] := ⟨[.string x.f0], [.slice A1 x.f1.length c1, .slice A2 x.f2.length c2], rfl, rfl, ⟨[.slice A1 x.f1.length c1], [.slice A2 x.f2.length c2], rfl, ⟨A1, c1, rfl, l1, g1⟩, ⟨A2, c2, rfl, l2, g2⟩⟩⟩
theorem k35_mkM (w : World) (base : Nat) (ok : Nat → Prop) (x : S35) {v1 : Value} (g1 : k50.R 50 w base ok v1 x.f1) {v2 : Value} (g2 : k50.R 50 w base ok v2 x.f2) : k35.M w base ok x [.string x.f0, v1, v2] := ⟨[.string x.f0], [v1, v2], rfl, rfl, ⟨[v1], [v2], rfl, ⟨v1, rfl, g1⟩, ⟨v2, rfl, g2⟩⟩⟩
theorem k35_mkF (W : World) (ok : Nat → Prop) (x : S35) {A1 : Option Addr} {c1 : Nat} (l1 : x.f1.length ≤ c1) (g1 : Kd.F k50 W ok A1 x.f1.length x.f1) {A2 : Option Addr} {c2 : Nat} (l2 : x.f2.length ≤ c2) (g2 : Kd.F k50 W ok A2 x.f2.length x.f2) : Kd.FK k35 W ok x [.string x.f0, .slice A1 x.f1.length c1, .slice A2 x.f2.length c2] := fun W2 hW => k35_mk W2 x l1 (g1 W2 hW) l2 (g2 W2 hW)
def rd_T35 (xs : List S35) (i : Int) : S35 := xs.getD i.toNat z35
theorem at_T35 {w : World} {A : Option Addr} {n : Nat} {xs : List S35} (h : Kd.C k35 w A n xs) (i : Int) (h0 : 0 ≤ i) (h1 : i < n) : ∃ ad A1 c1 A2 c2, A = some ad ∧ w.cell? (ad.add (i.toNat * 3)) = some (.string (rd_T35 xs i).f0) ∧ w.cell? ⟨(ad.add (i.toNat * 3)).block, (ad.add (i.toNat * 3)).off + 1, none⟩ = some (.slice A1 (rd_T35 xs i).f1.length c1) ∧ w.cell? ⟨(ad.add (i.toNat * 3)).block, (ad.add (i.toNat * 3)).off + 2, none⟩ = some (.slice A2 (rd_T35 xs i).f2.length c2) ∧ (rd_T35 xs i).f1.length ≤ c1 ∧ k50.C w A1 (rd_T35 xs i).f1.length (rd_T35 xs i).f1 ∧ (rd_T35 xs i).f2.length ≤ c2 ∧ k50.C w A2 (rd_T35 xs i).f2.length (rd_T35 xs i).f2 := by
  obtain ⟨ad, c, e, _, hK, hc0⟩ := Kd.C_get h z35 i h0 h1
  have hc : ∀ j u, c[j]? = some u → w.cell? (ad.add (i.toNat * 3 + j)) = some u := hc0
  obtain ⟨A1, c1, A2, c2, rfl, l1, g1, l2, g2⟩ := k35_open hK
  exact ⟨ad, A1, c1, A2, c2, e, hc 0 _ rfl, by rw [← add_field _ _ 1 (by omega)]; exact hc 1 _ rfl, by rw [← add_field _ _ 2 (by omega)]; exact hc 2 _ rfl, l1, g1, l2, g2⟩
end Go.Proofs.YtniolbolfclhkaaDoor.Q
namespace Go.Proofs.YtniolbolfclhkaaDoor.Q
open Go.RowKit Go.Proofs.YtniolbolfclhkaaDoorW.PrintWords Go.Proofs.YtniolbolfclhkaaDoorW.PrintLast
theorem pu_ : (∀ (a : Act) (d : Tmp) (v : Value), a.put (some d) v = { tmps := a.tmps.setIfInBounds d v, defers := a.defers }) ∧ (∀ (a : Act) (v : Value), a.put none v = a) ∧ (∀ (l : List Value) (i : Nat) (x : Value), l.toArray.setIfInBounds i x = (l.set i x).toArray) ∧ (∀ (x a : Value) (xs : List Value), (x :: xs).set 0 a = a :: xs) ∧ (∀ (x a : Value) (xs : List Value) (i : Nat), (x :: xs).set (i + 1) a = x :: xs.set i a) ∧ (∀ n : Int, IntKind.i64.wrap n = wrap64 n) ∧ (∀ n : Int, IntKind.i32.wrap n = wrap32 n) :=
  ⟨fun _ _ _ => rfl, fun _ _ => rfl, fun _ _ _ => List.setIfInBounds_toArray .., fun _ _ _ => rfl, fun _ _ _ _ => rfl, i64_w, i32_w⟩
end Go.Proofs.YtniolbolfclhkaaDoor.Q
namespace Go.Proofs.YtniolbolfclhkaaDoor.Q
open Go.RowKit Go.Proofs.YtniolbolfclhkaaDoorW.PrintWords Go.Proofs.YtniolbolfclhkaaDoorW.PrintLast Go.Proofs.YtniolbolfclhkaaDoorW.PrintMore
attribute [local go_sem] max2_int min2_int max_two min_two max_three min_three max_four min_four   -- for this text's walks alone
set_option linter.unusedVariables false
set_option linter.unusedSimpArgs false
def bursarlaw13_small.f  : Option (ByteArray × ByteArray × (List (S37)) × Int × Int × (List (S35)) × Int) := some ((⟨#[47, 97]⟩ : ByteArray), (⟨#[120]⟩ : ByteArray), ([] : List (S37)), 3, 0, (([(⟨(⟨#[109, 97, 105, 110]⟩ : ByteArray), (([(⟨(⟨#[99, 112, 117]⟩ : ByteArray), 500⟩ : S50)] : List (S50))), ([] : List (S50))⟩ : S35)] : List (S35))), 7)
set_option maxHeartbeats 8000000 in
set_option maxRecDepth 100000 in
theorem bursarlaw13_small.calls  (r1 : ByteArray) (r2 : ByteArray) (r3 : List (S37)) (r4 : Int) (r5 : Int) (r6 : List (S35)) (r7 : Int) (w : World) (h : bursarlaw13_small.f  = some (r1, r2, r3, r4, r5, r6, r7)) :
  Calls Tryd.prog 16 #[] w fun e w' => ∃ v2_ v5_ : Value,e = .returned (.agg #[.string r1,.string r2,v2_,.int .i64 r4,.int .i64 r5,v5_,.int .i64 r7]) ∧ Kd.R k37 37 w' w.heap.size (fun k_ => (w.heap.size ≤ k_)) v2_ r3 ∧ Kd.N k35 35 w' w.heap.size (fun k_ => (w.heap.size ≤ k_) ∧ some k_ ≠ (v2_ : Value).ownBlock) v5_ r6 ∧ Below w.heap.size w w':=by
 have hu25:=Tryd.underlying25
 have hu50:=Tryd.underlying50
 have hu35:=Tryd.underlying35
 have HB:=Aside0.mk (Below.refl w.heap.size w)
 have H : (some ((⟨#[47,97]⟩ : ByteArray),(⟨#[120]⟩ : ByteArray),([] : List (S37)),3,0,(([(⟨(⟨#[109,97,105,110]⟩ : ByteArray),(([(⟨(⟨#[99,112,117]⟩ : ByteArray),500⟩ : S50)] : List (S50))),([] : List (S50))⟩ : S35)] : List (S35))),7)) = some (r1,r2,r3,r4,r5,r6,r7):=h
 clear h
 obtain ⟨y102,hy102⟩ : ∃ y_ : List (S50),y_ = (([(⟨(⟨#[99,112,117]⟩ : ByteArray),500⟩ : S50)] : List (S50))):=⟨_,rfl⟩
 replace H : (some ((⟨#[47,97]⟩ : ByteArray),(⟨#[120]⟩ : ByteArray),([] : List (S37)),3,0,(([(⟨(⟨#[109,97,105,110]⟩ : ByteArray),y102,([] : List (S50))⟩ : S35)] : List (S35))),7)) = some (r1,r2,r3,r4,r5,r6,r7):=by first|(rw [hy102];with_reducible exact H)|(have H2_:=(Option.bind_some _ _).symm.trans H;rw [hy102];with_reducible exact H2_)|(have H2_:=(Option.bind_some _ _).symm.trans H;with_reducible exact H2_)|with_reducible exact H|(rw [hy102];exact H)|exact H
 have Ny102:=Aside0.mk hy102
 clear hy102
 obtain ⟨y105,hy105⟩ : ∃ y_ : List (S35),y_ = (([(⟨(⟨#[109,97,105,110]⟩ : ByteArray),y102,([] : List (S50))⟩ : S35)] : List (S35))):=⟨_,rfl⟩
 replace H : (some ((⟨#[47,97]⟩ : ByteArray),(⟨#[120]⟩ : ByteArray),([] : List (S37)),3,0,y105,7)) = some (r1,r2,r3,r4,r5,r6,r7):=by first|(rw [hy105];with_reducible exact H)|(have H2_:=(Option.bind_some _ _).symm.trans H;rw [hy105];with_reducible exact H2_)|(have H2_:=(Option.bind_some _ _).symm.trans H;with_reducible exact H2_)|with_reducible exact H|(rw [hy105];exact H)|exact H
 have Ny105:=Aside0.mk hy105
 clear hy105
 simp only [Option.some.injEq,Prod.mk.injEq] at H
 obtain ⟨rfl,rfl,rfl,rfl,rfl,rfl,rfl⟩:=H
 go_enter Tryd.func16,Tryd.ntmps16
 go_wp2_with (first|((with_reducible refine gate_dst (N:=0) rfl ?_);refine box_event ?hg (N:=0) ?hd (cs:=#[.string (⟨#[]⟩ : ByteArray),.string (⟨#[]⟩ : ByteArray),.slice none 0 0,.int .i64 0,.int .i64 0,.slice none 0 0,.int .i64 0]) (t:=25) ?hr ?_;(case hd => rfl);(case hg => rfl);(case hr => first|(go_simp;done)|(go_simp;rfl));intro gb101 hg w1 hbox hb;have n0_:=Aside0.mk (below_step (by repeat (first|(with_reducible first|exact HB.out|apply below_alloc|apply pw_below_drewN|apply below_drew1)|exact HB.out)) hb);have n1_:=Aside0.mk (hbox);have n2_:=Aside0.mk ((by rw [hg];exact (below_size (by repeat (first|(with_reducible first|exact HB.out|apply below_alloc|apply pw_below_drewN|apply below_drew1)|exact HB.out))) : w.heap.size ≤ gb101));have n3_:=Aside0.mk ((by rw [hg];exact (below_size (by repeat (first|(with_reducible first|exact HB.out|apply below_alloc|apply pw_below_drewN|apply below_drew1)|exact HB.out))) : w.heap.size ≤ gb101));clear HB;have HB:=n0_;have BK101:=n1_;have GW101:=n2_;have GE101:=n3_;clear n0_ n1_ n2_ n3_;clear hb hbox hg)|((with_reducible refine gate_dst (N:=2) rfl ?_);refine Kd.R_lit k50 _ 50 ?hg (N:=2) ?hd (xs:=([(⟨(⟨#[99,112,117]⟩ : ByteArray),500⟩ : S50)] : List (S50))) (inner:=[.string (⟨#[99,112,117]⟩ : ByteArray),.int .i64 500]) (ok:=fun _ => True) (okp:=fun _ => True) ?hr ?hp (fun _ hk => hk) trivial (Below.refl _ _) (Nat.le_refl _) (by simp) ?_;(case hd => rfl);(case hg => rfl);(case hr => first|(go_simp;done)|(go_simp;rfl));(case hp => exact (Reps.c2 (show Kd.M k50 _ _ _ (⟨(⟨#[99,112,117]⟩ : ByteArray),500⟩ : S50) [.string (⟨#[99,112,117]⟩ : ByteArray),.int .i64 500] from (k50_mkM _ _ _ (⟨(⟨#[99,112,117]⟩ : ByteArray),500⟩ : S50) )) (Reps.none _ _)));intro v103 w2 ho3 hb hg_ hnew_;clear hg_ hnew_;(first|rw [← Ny102.out] at ho3|(simp only [Int.reduceToNat] at ho3;rw [← Ny102.out] at ho3));have n0_:=Aside0.mk (Kd.R_lower (Kd.R_newM (M:=fun k_ => (w.heap.size ≤ k_)) ho3 (below_size (by repeat (first|(with_reducible first|exact HB.out|apply below_alloc|apply pw_below_drewN|apply below_drew1|refine below_set ?_ GE101.out)|exact HB.out))) (fun k_ h_ => h_)) (below_size (by repeat (first|(with_reducible first|exact HB.out|apply below_alloc|apply pw_below_drewN|apply below_drew1|refine below_set ?_ GE101.out)|exact HB.out))));have n1_:=Aside0.mk (blk_below (g:=gb101) (o:=.cells #[.string (⟨#[]⟩ : ByteArray),.string (⟨#[]⟩ : ByteArray),.slice none 0 0,.int .i64 0,.int .i64 0,.slice none 0 0,.int .i64 0] 25 (0,0)) (by (with_reducible repeat (first|refine blk_drewN ?_ _|refine blk_drew ?_|refine blk_alloc ?_ _));exact BK101.out) hb);have n2_:=Aside0.mk (below_step (by repeat (first|(with_reducible first|exact HB.out|apply below_alloc|apply pw_below_drewN|apply below_drew1|refine below_set ?_ GE101.out)|exact HB.out)) hb);clear BK101;clear HB;have HO104:=n0_;have BK101:=n1_;have HB:=n2_;clear n0_ n1_ n2_;clear hb ho3;obtain ⟨Ao4,co4,eo4⟩:=Kd.R_slice HO104.out;subst eo4)|((with_reducible refine gate_dst (N:=4) rfl ?_);refine Kd.N_lit k35 _ 35 ?hg (N':=4) ?hd (xs:=([(⟨(⟨#[109,97,105,110]⟩ : ByteArray),y102,([] : List (S50))⟩ : S35)] : List (S35))) (inner:=[.string (⟨#[109,97,105,110]⟩ : ByteArray),.slice Ao4 y102.length co4,.slice none 0 0]) (ok:=(fun k_ => (w.heap.size ≤ k_) ∧ k_ ≠ gb101)) (okp:=(fun k_ => (w.heap.size ≤ k_) ∧ k_ ≠ gb101)) ?hr ?hp (fun _ hk => hk) ((show ∀ k_,w2.heap.size ≤ k_ → (fun k_ => (w.heap.size ≤ k_) ∧ k_ ≠ gb101) k_ from fun k_ hk => ⟨(Nat.le_trans (below_size (by repeat (first|(with_reducible first|exact HB.out|apply below_alloc|apply pw_below_drewN|apply below_drew1|refine below_set ?_ GE101.out)|exact HB.out))) hk),Kd.freshB (g:=gb101) (o:=.cells #[.string (⟨#[]⟩ : ByteArray),.string (⟨#[]⟩ : ByteArray),.slice none 0 0,.int .i64 0,.int .i64 0,.slice none 0 0,.int .i64 0] 25 (0,0)) (by (with_reducible repeat (first|refine blk_drewN ?_ _|refine blk_drew ?_|refine blk_alloc ?_ _));exact BK101.out) k_ hk⟩) _ (Nat.le_refl _)) (Below.refl _ _) (Nat.le_refl _) (by simp) ?_;(case hd => rfl);(case hg => rfl);(case hr => first|(go_simp;done)|(go_simp;rfl));(case hp => exact (Reps.c3 (show Kd.FK k35 _ _ (⟨(⟨#[109,97,105,110]⟩ : ByteArray),y102,([] : List (S50))⟩ : S35) [.string (⟨#[109,97,105,110]⟩ : ByteArray),.slice Ao4 y102.length co4,.slice none 0 0] from (k35_mkF _ _ (⟨(⟨#[109,97,105,110]⟩ : ByteArray),y102,([] : List (S50))⟩ : S35) (Kd.R_reads' (Kd.R_mono (ok':=(fun k_ => (w.heap.size ≤ k_) ∧ k_ ≠ gb101)) (Kd.R_types (HO104.out) BK101.out (by decide)) (fun k_ hk => ⟨hk.1.1,hk.2⟩))).2.1 (Kd.R_F (Kd.R_mono (ok':=(fun k_ => (w.heap.size ≤ k_) ∧ k_ ≠ gb101)) (Kd.R_types (HO104.out) BK101.out (by decide)) (fun k_ hk => ⟨hk.1.1,hk.2⟩))) (Nat.le_refl _) (Kd.F_nil _ _ _))) (Reps.none _ _)));intro v106 w5 ho6 hb hg_ hnew_;clear hg_ hnew_;(first|rw [← Ny105.out] at ho6|(simp only [Int.reduceToNat] at ho6;rw [← Ny105.out] at ho6));have n0_:=Aside0.mk (Kd.N_lower ho6 (below_size (by repeat (first|(with_reducible first|exact HB.out|apply below_alloc|apply pw_below_drewN|apply below_drew1|refine below_set ?_ GE101.out)|exact HB.out))));have n1_:=Aside0.mk (blk_below (g:=gb101) (o:=.cells #[.string (⟨#[]⟩ : ByteArray),.string (⟨#[]⟩ : ByteArray),.slice none 0 0,.int .i64 0,.int .i64 0,.slice none 0 0,.int .i64 0] 25 (0,0)) (by (with_reducible repeat (first|refine blk_drewN ?_ _|refine blk_drew ?_|refine blk_alloc ?_ _));exact BK101.out) hb);have n2_:=Aside0.mk (below_step (by repeat (first|(with_reducible first|exact HB.out|apply below_alloc|apply pw_below_drewN|apply below_drew1|refine below_set ?_ GE101.out)|exact HB.out)) hb);clear BK101;clear HB;clear HO104;have HO107:=n0_;have BK101:=n1_;have HB:=n2_;clear n0_ n1_ n2_;clear hb ho6;obtain ⟨Ao7,co7,eo7⟩:=Kd.N_slice HO107.out;subst eo7;have hcz8_0 : w5.cell? ⟨gb101,0,none⟩ = some (.string (⟨#[]⟩ : ByteArray)):=(blk_cell BK101.out 0).trans rfl;have hcz8_1 : w5.cell? ⟨gb101,1,none⟩ = some (.string (⟨#[]⟩ : ByteArray)):=(blk_cell BK101.out 1).trans rfl;have hcz8_2 : w5.cell? ⟨gb101,2,none⟩ = some (.slice none 0 0):=(blk_cell BK101.out 2).trans rfl;have hcz8_3 : w5.cell? ⟨gb101,3,none⟩ = some (.int .i64 0):=(blk_cell BK101.out 3).trans rfl;have hcz8_4 : w5.cell? ⟨gb101,4,none⟩ = some (.int .i64 0):=(blk_cell BK101.out 4).trans rfl;have hcz8_5 : w5.cell? ⟨gb101,5,none⟩ = some (.slice none 0 0):=(blk_cell BK101.out 5).trans rfl;have hcz8_6 : w5.cell? ⟨gb101,6,none⟩ = some (.int .i64 0):=(blk_cell BK101.out 6).trans rfl;have hfz8_0:=blk_frozen BK101.out 0;have hfz8_1:=blk_frozen BK101.out 1;have hfz8_2:=blk_frozen BK101.out 2;have hfz8_3:=blk_frozen BK101.out 3;have hfz8_4:=blk_frozen BK101.out 4;have hfz8_5:=blk_frozen BK101.out 5;have hfz8_6:=blk_frozen BK101.out 6))
 refine bodyPost_ret (results_cell_row rfl _ _ gb101 25 #[.string (⟨#[47,97]⟩ : ByteArray),.string (⟨#[120]⟩ : ByteArray),.slice none 0 0,.int .i64 3,.int .i64 0,.slice Ao7 y105.length co7,.int .i64 7] (0,0) _ rfl (by (with_reducible repeat (first|refine blk_drewN ?_ _|refine blk_drew ?_|refine blk_alloc ?_ _));refine blk_put (cs:=#[.string (⟨#[47,97]⟩ : ByteArray),.string (⟨#[120]⟩ : ByteArray),.slice none 0 0,.int .i64 3,.int .i64 0,.slice Ao7 y105.length co7,.int .i64 0]) ?_ 6 _ rfl;(with_reducible repeat (first|refine blk_drewN ?_ _|refine blk_drew ?_|refine blk_alloc ?_ _));refine blk_put (cs:=#[.string (⟨#[47,97]⟩ : ByteArray),.string (⟨#[120]⟩ : ByteArray),.slice none 0 0,.int .i64 3,.int .i64 0,.slice none 0 0,.int .i64 0]) ?_ 5 _ rfl;(with_reducible repeat (first|refine blk_drewN ?_ _|refine blk_drew ?_|refine blk_alloc ?_ _));refine blk_put (cs:=#[.string (⟨#[47,97]⟩ : ByteArray),.string (⟨#[120]⟩ : ByteArray),.slice none 0 0,.int .i64 3,.int .i64 0,.slice none 0 0,.int .i64 0]) ?_ 4 _ rfl;(with_reducible repeat (first|refine blk_drewN ?_ _|refine blk_drew ?_|refine blk_alloc ?_ _));refine blk_put (cs:=#[.string (⟨#[47,97]⟩ : ByteArray),.string (⟨#[120]⟩ : ByteArray),.slice none 0 0,.int .i64 0,.int .i64 0,.slice none 0 0,.int .i64 0]) ?_ 3 _ rfl;(with_reducible repeat (first|refine blk_drewN ?_ _|refine blk_drew ?_|refine blk_alloc ?_ _));refine blk_put (cs:=#[.string (⟨#[47,97]⟩ : ByteArray),.string (⟨#[120]⟩ : ByteArray),.slice none 0 0,.int .i64 0,.int .i64 0,.slice none 0 0,.int .i64 0]) ?_ 2 _ rfl;(with_reducible repeat (first|refine blk_drewN ?_ _|refine blk_drew ?_|refine blk_alloc ?_ _));refine blk_put (cs:=#[.string (⟨#[47,97]⟩ : ByteArray),.string (⟨#[]⟩ : ByteArray),.slice none 0 0,.int .i64 0,.int .i64 0,.slice none 0 0,.int .i64 0]) ?_ 1 _ rfl;(with_reducible repeat (first|refine blk_drewN ?_ _|refine blk_drew ?_|refine blk_alloc ?_ _));refine blk_put (cs:=#[.string (⟨#[]⟩ : ByteArray),.string (⟨#[]⟩ : ByteArray),.slice none 0 0,.int .i64 0,.int .i64 0,.slice none 0 0,.int .i64 0]) ?_ 0 _ rfl;(with_reducible repeat (first|refine blk_drewN ?_ _|refine blk_drew ?_|refine blk_alloc ?_ _));exact BK101.out) Tryd.underlying25 rfl (by kernel_rfl)) rfl ?_
 exact ⟨_,_,by first|rfl|(simp [errW_none,errW_some] <;> rfl)|(simp [*,errW_none,errW_some] <;> rfl),by first|exact Kd.R_nil _ _ _ _ _|exact Kd.N_nil _ _ _ _ _|exact Kd.V_nil _ _ _ _ _|exact Kd.Q_nil _ _ _ _ _|exact Kd.S_nil _ _ _ _ _,by (with_reducible repeat (first|apply Kd.N_alloc|apply Kd.N_drewN|apply Kd.N_drew));exact Kd.N_mono (Kd.N_far (p:=⟨gb101,6,none⟩) (Kd.N_far (p:=⟨gb101,5,none⟩) (Kd.N_far (p:=⟨gb101,4,none⟩) (Kd.N_far (p:=⟨gb101,3,none⟩) (Kd.N_far (p:=⟨gb101,2,none⟩) (Kd.N_far (p:=⟨gb101,1,none⟩) (Kd.N_far (p:=⟨gb101,0,none⟩) (Kd.N_mono HO107.out (fun k_ hk => (⟨hk,hk.2⟩ : _ ∧ k_ ≠ gb101))) (fun _ hk => hk.2) (.string (⟨#[47,97]⟩ : ByteArray))) (fun _ hk => hk.2) (.string (⟨#[120]⟩ : ByteArray))) (fun _ hk => hk.2) (.slice none 0 0)) (fun _ hk => hk.2) (.int .i64 3)) (fun _ hk => hk.2) (.int .i64 0)) (fun _ hk => hk.2) (.slice Ao7 y105.length co7)) (fun _ hk => hk.2) (.int .i64 7)) (fun _ hk => ⟨hk.1.1,(by simp [Value.ownBlock])⟩),by repeat (first|(with_reducible first|exact HB.out|apply below_alloc|apply pw_below_drewN|apply below_drew1|refine below_set ?_ GE101.out)|exact HB.out)⟩
end Go.Proofs.YtniolbolfclhkaaDoor.Q
namespace Go.Proofs.YtniolbolfclhkaaDoor.Q
def bl (n m : Nat) : Array Bool := (List.replicate n true ++ List.replicate m false).toArray
end Go.Proofs.YtniolbolfclhkaaDoor.Q
namespace Go.Proofs.YtniolbolfclhkaaDoor.Q
open Go.RowKit Go.Proofs.YtniolbolfclhkaaDoorW.PrintWords Go.Proofs.YtniolbolfclhkaaDoorW.PrintLast Go.Proofs.YtniolbolfclhkaaDoorW.PrintMore
attribute [local go_sem] max2_int min2_int max_two min_two max_three min_three max_four min_four   -- for this text's walks alone
set_option linter.unusedVariables false
set_option linter.unusedSimpArgs false
theorem eqA50 (d : Nat) (w : World) (x0 y0 : ByteArray) (x1 y1 : Int) :
  (Op.equalIn (d + 2) 50 (.agg #[.string x0,.int .i64 x1]) (.agg #[.string y0,.int .i64 y1])).run Tryd.prog w = .ok (x0.toList == y0.toList && (x1 == y1)) w:=by
 refine eqA_of Tryd.underlying50 (by kernel_rfl) ?_
 refine eqf_cons (by rfl) (by go_simp;rfl) (by go_simp;rfl) (by go_simp) ?_
 exact eqf_last (by rfl) (by go_simp;rfl) (by go_simp;rfl) (by go_simp)
end Go.Proofs.YtniolbolfclhkaaDoor.Q
namespace Go.Proofs.YtniolbolfclhkaaDoor.Q
open Go.RowKit Go.Proofs.YtniolbolfclhkaaDoorW.PrintWords Go.Proofs.YtniolbolfclhkaaDoorW.PrintLast Go.Proofs.YtniolbolfclhkaaDoorW.PrintMore
attribute [local go_sem] max2_int min2_int max_two min_two max_three min_three max_four min_four   -- for this text's walks alone
set_option linter.unusedVariables false
set_option linter.unusedSimpArgs false
attribute [local go_sem high] eqA50
def bursarlaw13_sameAmounts.l0 : Nat → List (S50) → List (S50) → Int → Option (Bool)
|0,_,_,_ => none
|k + 1,x0,x1,x5 => if x5 < (x0.length : Int) then (if 0 ≤ x5 then (if x5 < (x1.length : Int) then (if (!((((rd_T50 x0 x5).f0).toList) == (((rd_T50 x1 x5).f0).toList)) || (!(((rd_T50 x0 x5).f1) == ((rd_T50 x1 x5).f1)))) = true then (some false) else (bursarlaw13_sameAmounts.l0 k x0 x1 (wrap64 (x5 + 1)))) else (none)) else (none)) else (some true)
def bursarlaw13_sameAmounts.f (k : Nat) (l0 : List (S50)) (l1 : List (S50)) : Option (Bool) := if (l0.length : Int) = (l1.length : Int) then (bursarlaw13_sameAmounts.l0 k l0 l1 0) else (some false)
theorem bursarlaw13_sameAmounts.mono_l : ∀ k, (∀ y0 y1 y2, LeO (bursarlaw13_sameAmounts.l0 k y0 y1 y2) (bursarlaw13_sameAmounts.l0 (k + 1) y0 y1 y2))
|0 => fun _ _ _ r h => by simp [bursarlaw13_sameAmounts.l0] at h
|k + 1 => by
  have ih0:=bursarlaw13_sameAmounts.mono_l k
  ·intro y0 y1 y2
   unfold bursarlaw13_sameAmounts.l0
   repeat' first
  |(with_reducible exact ih0 _ _ _)
  |(with_reducible exact LeO.refl _)
  |(with_reducible exact LeO.none _)
  |(with_reducible refine LeO.ite ?_ ?_)
  |(with_reducible refine LeO.bind ?_ (fun _ => ?_))
  |exact ih0 _ _ _
  |exact LeO.none _
  |refine LeO.ite ?_ ?_
  |refine LeO.bind ?_ (fun _ => ?_)
theorem bursarlaw13_sameAmounts.mono : ∀ a0 a1 k, LeO (bursarlaw13_sameAmounts.f k a0 a1) (bursarlaw13_sameAmounts.f (k + 1) a0 a1) := by
 intro a0 a1 k
 have ih0:=bursarlaw13_sameAmounts.mono_l k
 unfold bursarlaw13_sameAmounts.f
 repeat' first
  |(with_reducible exact ih0 _ _ _)
  |(with_reducible exact LeO.refl _)
  |(with_reducible exact LeO.none _)
  |(with_reducible refine LeO.ite ?_ ?_)
  |(with_reducible refine LeO.bind ?_ (fun _ => ?_))
  |exact ih0 _ _ _
  |exact LeO.none _
  |refine LeO.ite ?_ ?_
  |refine LeO.bind ?_ (fun _ => ?_)
set_option maxHeartbeats 8000000 in
set_option maxRecDepth 100000 in
theorem bursarlaw13_sameAmounts.calls (k : Nat) (A0 : Option Addr) (c0 : Nat) (l0 : List (S50)) (A1 : Option Addr) (c1 : Nat) (l1 : List (S50)) (r : Bool) (w : World) (hr0 : Kd.C k50 w A0 l0.length l0) (hc0 : l0.length ≤ c0) (hr1 : Kd.C k50 w A1 l1.length l1) (hc1 : l1.length ≤ c1) (h : bursarlaw13_sameAmounts.f k l0 l1 = some r) :
  Calls Tryd.prog 44 #[.slice A0 l0.length c0,.slice A1 l1.length c1] w fun e w' => e = .returned (.bool r) ∧ Drawn0 w w':=by
 have hu50:=Tryd.underlying50
 have HR0:=Aside0.mk hr0
 have HC0:=Aside0.mk hc0
 clear hr0 hc0
 have HR1:=Aside0.mk hr1
 have HC1:=Aside0.mk hc1
 clear hr1 hc1
 have H : (if (l0.length : Int) = (l1.length : Int) then (bursarlaw13_sameAmounts.l0 k l0 l1 0) else (some false)) = some r:=h
 clear h
 by_cases c3 : (l0.length : Int) = (l1.length : Int)
 rotate_left
 ·rw [if_neg c3] at H
  have c3b0 : ((l0.length : Int) == (l1.length : Int)) = false:=beq_eq_false_iff_ne.mpr c3
  have c3b1 : ((l0.length : Int) != (l1.length : Int)) = true:=bne_iff_ne.mpr c3
  have c3b2 : (l0.length == l1.length) = false:=by first|simpa using c3|(simp at c3 ⊢;omega)
  obtain rfl:=Option.some.inj H
  go_enter Tryd.func44,Tryd.ntmps44
  go_wp2
  repeat (go_quiet (fail);try go_wp2)
  go_ret
  exact ⟨by first|rfl|(simp;done)|(simp [*];done),by repeat (first|exact Drawn0.refl _|apply Drawn0.step)⟩
 rw [if_pos c3] at H
 have c3b0 : ((l0.length : Int) == (l1.length : Int)) = true:=beq_iff_eq.mpr c3
 have c3b1 : ((l0.length : Int) != (l1.length : Int)) = false:=bne_eq_false_iff_eq.mpr c3
 have c3b2 : (l0.length == l1.length) = true:=by first|simpa using c3|(simp at c3 ⊢;omega)
 clear c3
 have H':=Aside0.mk H
 clear H
 go_enter Tryd.func44,Tryd.ntmps44
 go_wp2
 repeat (go_quiet (fail);try go_wp2)
 go_loopg [5] k (fun kq v5 w' => ∃ (x5_1 : Int),v5 = .int .i64 x5_1 ∧ Aside0 (bursarlaw13_sameAmounts.l0 kq l0 l1 x5_1 = some r) ∧ Aside0 (kq ≤ k) ∧ Drawn0 w w')
 case atStart => exact ⟨(0),(by first|rfl|(simp;done)|(simp [*];done)|(simp;rw [Bool.eq_iff_iff];simp;done)|(rw [Bool.eq_iff_iff];simp;done)),H',⟨Nat.le_refl _⟩,by repeat (first|exact Drawn0.refl _|apply Drawn0.step)⟩
 case round =>
  clear H';(try clear c1);(try clear p2);(try clear c3);(try clear c3b0);(try clear c3b1);(try clear c3b2)
  obtain ⟨x5_1,rfl,HA,HK1,⟨m1,rfl⟩⟩:=hrel
  cases gk with
 |zero => exact absurd HA.out (by simp [bursarlaw13_sameAmounts.l0])
 |succ k1 =>
   have H:=HA.out
   clear HA
   simp only [bursarlaw13_sameAmounts.l0] at H
   by_cases c4 : x5_1 < (l0.length : Int)
   rotate_left
   ·rw [if_neg c4] at H
    have c4b0 : decide (x5_1 < (l0.length : Int)) = false:=decide_eq_false c4
    clear c4
    obtain rfl:=Option.some.inj H
    go_wp2
    repeat (go_quiet (fail);try go_wp2)
    go_ret
    exact ⟨by first|rfl|(simp;done)|(simp [*];done),by repeat (first|exact Drawn0.refl _|apply Drawn0.step)⟩
   rw [if_pos c4] at H
   have c4b0 : decide (x5_1 < (l0.length : Int)) = true:=decide_eq_true c4
   clear c4
   by_cases c5 : 0 ≤ x5_1
   rotate_left
   ·rw [if_neg c5] at H
    exact absurd H (by simp)
   rw [if_pos c5] at H
   have c5b0 : decide (0 ≤ x5_1) = true:=decide_eq_true c5
   clear c5
   by_cases c6 : x5_1 < (l1.length : Int)
   rotate_left
   ·rw [if_neg c6] at H
    exact absurd H (by simp)
   rw [if_pos c6] at H
   have c6b0 : decide (x5_1 < (l1.length : Int)) = true:=decide_eq_true c6
   clear c6
   by_cases c7 : (!((((rd_T50 l0 x5_1).f0).toList) == (((rd_T50 l1 x5_1).f0).toList)) || (!(((rd_T50 l0 x5_1).f1) == ((rd_T50 l1 x5_1).f1)))) = true
   ·rw [if_pos c7] at H
    have c7b0 : (!((((rd_T50 l0 x5_1).f0).toList) == (((rd_T50 l1 x5_1).f0).toList)) || (!(((rd_T50 l0 x5_1).f1) == ((rd_T50 l1 x5_1).f1)))) = true:=c7
    clear c7
    obtain rfl:=Option.some.inj H
    have p513 : 0 ≤ (x5_1 : Int):=of_decide_eq_true (by first|(with_reducible assumption)|assumption)
    have q513 : x5_1 < (l0.length : Int):=of_decide_eq_true (by first|(with_reducible assumption)|assumption)
    obtain ⟨ad513,e513,hx513_0,hx513_1⟩:=at_T50 HR0.out x5_1 p513 q513
    cases e513
    replace p513:=eq_true p513
    replace q513:=eq_true q513
    have p514 : 0 ≤ (x5_1 : Int):=of_decide_eq_true (by first|(with_reducible assumption)|assumption)
    have q514 : x5_1 < (l1.length : Int):=of_decide_eq_true (by first|(with_reducible assumption)|assumption)
    obtain ⟨ad514,e514,hx514_0,hx514_1⟩:=at_T50 HR1.out x5_1 p514 q514
    cases e514
    replace p514:=eq_true p514
    replace q514:=eq_true q514
    go_wp2
    repeat (go_quiet (fail);try go_wp2)
    go_ret
    exact ⟨by first|rfl|(simp;done)|(simp [*];done),by repeat (first|exact Drawn0.refl _|apply Drawn0.step)⟩
   rw [if_neg c7] at H
   have c7b0 : (!((((rd_T50 l0 x5_1).f0).toList) == (((rd_T50 l1 x5_1).f0).toList)) || (!(((rd_T50 l0 x5_1).f1) == ((rd_T50 l1 x5_1).f1)))) = false:=by simpa using c7
   clear c7
   have H':=Aside0.mk H
   clear H
   have p513 : 0 ≤ (x5_1 : Int):=of_decide_eq_true (by first|(with_reducible assumption)|assumption)
   have q513 : x5_1 < (l0.length : Int):=of_decide_eq_true (by first|(with_reducible assumption)|assumption)
   obtain ⟨ad513,e513,hx513_0,hx513_1⟩:=at_T50 HR0.out x5_1 p513 q513
   cases e513
   replace p513:=eq_true p513
   replace q513:=eq_true q513
   have p514 : 0 ≤ (x5_1 : Int):=of_decide_eq_true (by first|(with_reducible assumption)|assumption)
   have q514 : x5_1 < (l1.length : Int):=of_decide_eq_true (by first|(with_reducible assumption)|assumption)
   obtain ⟨ad514,e514,hx514_0,hx514_1⟩:=at_T50 HR1.out x5_1 p514 q514
   cases e514
   replace p514:=eq_true p514
   replace q514:=eq_true q514
   go_wp2
   repeat (go_quiet (fail);try go_wp2)
   go_roundg k1
   case measure => have:=HK1.out;omega
   case rel => exact ⟨(wrap64 (x5_1 + 1)),(by first|rfl|(simp;done)|(simp [*];done)|(simp;rw [Bool.eq_iff_iff];simp;done)|(rw [Bool.eq_iff_iff];simp;done)),H',⟨by have:=HK1.out;omega⟩,by repeat (first|exact Drawn0.refl _|apply Drawn0.step)⟩
end Go.Proofs.YtniolbolfclhkaaDoor.Q
namespace Go.Proofs.YtniolbolfclhkaaDoor.Q
open Go.RowKit Go.Proofs.YtniolbolfclhkaaDoorW.PrintWords Go.Proofs.YtniolbolfclhkaaDoorW.PrintLast
set_option linter.unusedVariables false
set_option linter.unusedSimpArgs false
theorem ba_ext {a b : ByteArray} (h : a.data.toList = b.data.toList) : a = b := by
  cases a; cases b; simp only at h; congr 1; exact Array.toList_inj.1 h
theorem ba_iff (a b : ByteArray) : a.toList = b.toList ↔ a = b := by
  rw [ByteArray.toList_eq, ByteArray.toList_eq]
  exact ⟨ba_ext, fun h => by rw [h]⟩
theorem w64 (i : Nat) (h : i < 9223372036854775807) : wrap64 ((i : Int) + 1) = ((i + 1 : Nat) : Int) := by
  unfold wrap64; omega
theorem rd_at (l : List ByteArray) (i : Nat) (h : i < l.length) : rdOf ByteArray.empty l (i : Int) = l[i]'h := by
  simp [rdOf, List.getD_eq_getElem?_getD, List.getElem?_eq_getElem h]
end Go.Proofs.YtniolbolfclhkaaDoor.Q
namespace Go.Proofs.YtniolbolfclhkaaDoor.Q
open Go.RowKit Go.Proofs.YtniolbolfclhkaaDoorW.PrintWords Go.Proofs.YtniolbolfclhkaaDoorW.PrintLast Go.Proofs.YtniolbolfclhkaaDoorW.PrintMore
set_option linter.unusedVariables false
set_option linter.unusedSimpArgs false
abbrev Amt := S50
abbrev Lab := S37
abbrev Prt := S35
theorem amt_iff (a b : Amt) : a = b ↔ a.f0 = b.f0 ∧ a.f1 = b.f1 := by
  cases a; cases b; simp
theorem lab_iff (a b : Lab) : a = b ↔ a.f0 = b.f0 ∧ a.f1 = b.f1 := by
  cases a; cases b; simp
instance decAmt : DecidableEq Amt := fun a b => decidable_of_iff _ (amt_iff a b).symm
instance decLab : DecidableEq Lab := fun a b => decidable_of_iff _ (lab_iff a b).symm
theorem prt_iff (a b : Prt) : a = b ↔ a.f0 = b.f0 ∧ a.f1 = b.f1 ∧ a.f2 = b.f2 := by
  cases a; cases b; simp
instance decPrt : DecidableEq Prt := fun a b => decidable_of_iff _ (prt_iff a b).symm
theorem beq_t {a b : ByteArray} (h : a = b) : (a.toList == b.toList) = true := by rw [h, beq_self_eq_true]
theorem beq_f {a b : ByteArray} (h : ¬ a = b) : (a.toList == b.toList) = false := beq_eq_false_iff_ne.2 (fun e => h ((ba_iff a b).1 e))
theorem rd50_at (l : List Amt) (i : Nat) (h : i < l.length) : rd_T50 l (i : Int) = l[i] := by
  unfold rd_T50
  rw [Int.toNat_natCast, List.getD_eq_getElem?_getD, List.getElem?_eq_getElem h]
  rfl
theorem rd37_at (l : List Lab) (i : Nat) (h : i < l.length) : rd_T37 l (i : Int) = l[i] := by
  unfold rd_T37
  rw [Int.toNat_natCast, List.getD_eq_getElem?_getD, List.getElem?_eq_getElem h]
  rfl
theorem rd35_at (l : List Prt) (i : Nat) (h : i < l.length) : rd_T35 l (i : Int) = l[i] := by
  unfold rd_T35
  rw [Int.toNat_natCast, List.getD_eq_getElem?_getD, List.getElem?_eq_getElem h]
  rfl
theorem drop_iff {α : Type} {a b : List α} {i : Nat} (ha : i < a.length) (hb : i < b.length) : a.drop i = b.drop i ↔ a[i] = b[i] ∧ a.drop (i + 1) = b.drop (i + 1) := by
  rw [List.drop_eq_getElem_cons ha, List.drop_eq_getElem_cons hb]
  constructor
  · intro h; injection h with h1 h2; exact ⟨h1, h2⟩
  · rintro ⟨h1, h2⟩; rw [h1, h2]
theorem eqA37 (d : Nat) (w : World) (x0 y0 x1 y1 : ByteArray) :
    (Op.equalIn (d + 2) 37 (.agg #[.string x0, .string x1]) (.agg #[.string y0, .string y1])).run Tryd.prog w = .ok (x0.toList == y0.toList && (x1.toList == y1.toList)) w := by
  refine eqA_of Tryd.underlying37 (by kernel_rfl) ?_
  refine eqf_cons (by rfl) (by go_simp; rfl) (by go_simp; rfl) (by go_simp) ?_
  exact eqf_last (by rfl) (by go_simp; rfl) (by go_simp; rfl) (by go_simp)
attribute [local go_sem high] eqA37
theorem below_lower_ {b c : Nat} {w W : World} (h : Below c w W) (hb : b ≤ c) : Below b w W := ⟨h.os, h.tape, h.output, h.size, fun k hk => h.block k (by omega)⟩
theorem amts_loop (a b : List Amt) (hl : a.length = b.length) (hm : a.length ≤ 9223372036854775807) : ∀ (d i : Nat), i + d = a.length → Ev (fun k => bursarlaw13_sameAmounts.l0 k a b (i : Int)) (decide (a.drop i = b.drop i))
  | 0, i, hi => by
    refine Ev.step (f := fun _ => some true) (fun k => by simp only [bursarlaw13_sameAmounts.l0]; rw [if_neg (by omega)]) ?_
    rw [List.drop_eq_nil_of_le (by omega), List.drop_eq_nil_of_le (by omega)]
    exact Ev.now _
  | d + 1, i, hi => by
    have ih := amts_loop a b hl hm d (i + 1) (by omega)
    have hw : wrap64 ((i : Int) + 1) = ((i + 1 : Nat) : Int) := by unfold wrap64; omega
    by_cases he : a[i]'(by omega) = b[i]'(by omega)
    · have e1 : decide (a.drop i = b.drop i) = decide (a.drop (i + 1) = b.drop (i + 1)) := by
        rw [decide_eq_decide, drop_iff (by omega) (by omega)]
        exact ⟨fun h => h.2, fun h => ⟨he, h⟩⟩
      rw [e1]
      refine Ev.step (fun k => ?_) ih
      simp only [bursarlaw13_sameAmounts.l0]
      rw [if_pos (by omega), if_pos (by omega), if_pos (by omega), rd50_at a i (by omega), rd50_at b i (by omega), he, if_neg (by simp), hw]
    · have e1 : decide (a.drop i = b.drop i) = false := decide_eq_false (by rw [drop_iff (by omega) (by omega)]; exact fun h => he h.1)
      rw [e1]
      refine Ev.step (f := fun _ => some false) (fun k => ?_) (Ev.now _)
      simp only [bursarlaw13_sameAmounts.l0]
      rw [if_pos (by omega), if_pos (by omega), if_pos (by omega), rd50_at a i (by omega), rd50_at b i (by omega), if_pos]
      rw [amt_iff] at he
      simp only [Bool.or_eq_true, Bool.not_eq_true', beq_eq_false_iff_ne, Ne]
      by_cases e0 : (a[i]'(by omega)).f0 = (b[i]'(by omega)).f0
      · exact .inr (fun e => he ⟨e0, e⟩)
      · exact .inl (fun e => e0 ((ba_iff _ _).1 e))
theorem amts_f (a b : List Amt) (hm : a.length ≤ 9223372036854775807) : ∃ k, bursarlaw13_sameAmounts.f k a b = some (decide (a = b)) := by
  by_cases hl : a.length = b.length
  · obtain ⟨k, hk⟩ := (amts_loop a b hl hm a.length 0 (by omega)).rounds
    refine ⟨k, ?_⟩
    unfold bursarlaw13_sameAmounts.f
    rw [if_pos (by omega)]
    exact hk
  · refine ⟨0, ?_⟩
    unfold bursarlaw13_sameAmounts.f
    rw [if_neg (by omega), decide_eq_false (fun e => hl (by rw [e]))]
theorem amts_ok (a b : List Amt) (A0 : Option Addr) (c0 : Nat) (A1 : Option Addr) (c1 : Nat) (w : World) (hm : a.length ≤ 9223372036854775807) (h0 : Kd.C k50 w A0 a.length a) (hc0 : a.length ≤ c0) (h1 : Kd.C k50 w A1 b.length b) (hc1 : b.length ≤ c1) :
    Calls Tryd.prog 44 #[.slice A0 a.length c0, .slice A1 b.length c1] w fun e w' => e = .returned (.bool (decide (a = b))) ∧ Drawn0 w w' := by
  obtain ⟨k, hk⟩ := amts_f a b hm
  exact bursarlaw13_sameAmounts.calls k A0 c0 a A1 c1 b _ w h0 hc0 h1 hc1 hk
def sameO (p1 n1 : ByteArray) (l1 : List Lab) (pr1 d1 : Int) (ps1 : List Prt) (v1 : Int) (p2 n2 : ByteArray) (l2 : List Lab) (pr2 d2 : Int) (ps2 : List Prt) (v2 : Int) : Bool :=
  decide (p1 = p2 ∧ n1 = n2 ∧ l1 = l2 ∧ pr1 = pr2 ∧ d1 = d2 ∧ ps1 = ps2 ∧ v1 = v2)
def bursarlaw13_sameObject.f (p1 n1 : ByteArray) (l1 : List Lab) (pr1 d1 : Int) (ps1 : List Prt) (v1 : Int) (p2 n2 : ByteArray) (l2 : List Lab) (pr2 d2 : Int) (ps2 : List Prt) (v2 : Int) : Option Bool := some (sameO p1 n1 l1 pr1 d1 ps1 v1 p2 n2 l2 pr2 d2 ps2 v2)
set_option maxHeartbeats 8000000 in
set_option maxRecDepth 100000 in
theorem same_ok (p1 n1 : ByteArray) (A2 : Option Addr) (c2 : Nat) (l1 : List Lab) (pr1 d1 : Int) (A5 : Option Addr) (c5 : Nat) (ps1 : List Prt) (v1 : Int) (p2 n2 : ByteArray) (B2 : Option Addr) (e2 : Nat) (l2 : List Lab) (pr2 d2 : Int) (B5 : Option Addr) (e5 : Nat) (ps2 : List Prt) (v2 : Int) (w : World)
    (HR1 : Kd.C k37 w A2 l1.length l1) (HR2 : Kd.C k35 w A5 ps1.length ps1) (HR3 : Kd.C k37 w B2 l2.length l2) (HR4 : Kd.C k35 w B5 ps2.length ps2) :
    Calls Tryd.prog 18 #[.agg #[.string p1, .string n1, .slice A2 l1.length c2, .int .i64 pr1, .int .i64 d1, .slice A5 ps1.length c5, .int .i64 v1], .agg #[.string p2, .string n2, .slice B2 l2.length e2, .int .i64 pr2, .int .i64 d2, .slice B5 ps2.length e5, .int .i64 v2]] w
      fun e w' => e = .returned (.bool (sameO p1 n1 l1 pr1 d1 ps1 v1 p2 n2 l2 pr2 d2 ps2 v2)) ∧ Below w.heap.size w w' := by
  have hu25 := Tryd.underlying25
  have hu37 := Tryd.underlying37
  have hu35 := Tryd.underlying35
  by_cases h0 : p1 = p2
  rotate_left
  · have ta0 : (p1.toList == p2.toList) = false := beq_f h0
    have tb0 : (p1.toList != p2.toList) = true := by unfold bne; rw [ta0]; rfl
    have hres : sameO p1 n1 l1 pr1 d1 ps1 v1 p2 n2 l2 pr2 d2 ps2 v2 = false := decide_eq_false (by rintro ⟨e0, e1, e5, e2, e3, e6, e4⟩; exact h0 e0)
    rw [hres]
    clear hres HR1 HR2 HR3 HR4 hu37 hu35 h0
    go_enter Tryd.func18, Tryd.ntmps18
    go_wp2
    go_ret
    exact ⟨rfl, ((Below.refl _ _).alloc (Nat.le_refl _) _).alloc (by simp) _⟩
  by_cases h1 : n1 = n2
  rotate_left
  · have ta0 : (p1.toList == p2.toList) = true := beq_t h0
    have tb0 : (p1.toList != p2.toList) = false := by unfold bne; rw [ta0]; rfl
    have ta1 : (n1.toList == n2.toList) = false := beq_f h1
    have tb1 : (n1.toList != n2.toList) = true := by unfold bne; rw [ta1]; rfl
    have hres : sameO p1 n1 l1 pr1 d1 ps1 v1 p2 n2 l2 pr2 d2 ps2 v2 = false := decide_eq_false (by rintro ⟨e0, e1, e5, e2, e3, e6, e4⟩; exact h1 e1)
    rw [hres]
    clear hres HR1 HR2 HR3 HR4 hu37 hu35 h0 h1
    go_enter Tryd.func18, Tryd.ntmps18
    go_wp2
    go_ret
    exact ⟨rfl, ((Below.refl _ _).alloc (Nat.le_refl _) _).alloc (by simp) _⟩
  by_cases h2 : pr1 = pr2
  rotate_left
  · have ta0 : (p1.toList == p2.toList) = true := beq_t h0
    have tb0 : (p1.toList != p2.toList) = false := by unfold bne; rw [ta0]; rfl
    have ta1 : (n1.toList == n2.toList) = true := beq_t h1
    have tb1 : (n1.toList != n2.toList) = false := by unfold bne; rw [ta1]; rfl
    have ta2 : (pr1 == pr2) = false := beq_eq_false_iff_ne.2 h2
    have tb2 : (pr1 != pr2) = true := by unfold bne; rw [ta2]; rfl
    have hres : sameO p1 n1 l1 pr1 d1 ps1 v1 p2 n2 l2 pr2 d2 ps2 v2 = false := decide_eq_false (by rintro ⟨e0, e1, e5, e2, e3, e6, e4⟩; exact h2 e2)
    rw [hres]
    clear hres HR1 HR2 HR3 HR4 hu37 hu35 h0 h1 h2
    go_enter Tryd.func18, Tryd.ntmps18
    go_wp2
    go_ret
    exact ⟨rfl, ((Below.refl _ _).alloc (Nat.le_refl _) _).alloc (by simp) _⟩
  by_cases h3 : d1 = d2
  rotate_left
  · have ta0 : (p1.toList == p2.toList) = true := beq_t h0
    have tb0 : (p1.toList != p2.toList) = false := by unfold bne; rw [ta0]; rfl
    have ta1 : (n1.toList == n2.toList) = true := beq_t h1
    have tb1 : (n1.toList != n2.toList) = false := by unfold bne; rw [ta1]; rfl
    have ta2 : (pr1 == pr2) = true := beq_iff_eq.2 h2
    have tb2 : (pr1 != pr2) = false := by unfold bne; rw [ta2]; rfl
    have ta3 : (d1 == d2) = false := beq_eq_false_iff_ne.2 h3
    have tb3 : (d1 != d2) = true := by unfold bne; rw [ta3]; rfl
    have hres : sameO p1 n1 l1 pr1 d1 ps1 v1 p2 n2 l2 pr2 d2 ps2 v2 = false := decide_eq_false (by rintro ⟨e0, e1, e5, e2, e3, e6, e4⟩; exact h3 e3)
    rw [hres]
    clear hres HR1 HR2 HR3 HR4 hu37 hu35 h0 h1 h2 h3
    go_enter Tryd.func18, Tryd.ntmps18
    go_wp2
    go_ret
    exact ⟨rfl, ((Below.refl _ _).alloc (Nat.le_refl _) _).alloc (by simp) _⟩
  by_cases h4 : v1 = v2
  rotate_left
  · have ta0 : (p1.toList == p2.toList) = true := beq_t h0
    have tb0 : (p1.toList != p2.toList) = false := by unfold bne; rw [ta0]; rfl
    have ta1 : (n1.toList == n2.toList) = true := beq_t h1
    have tb1 : (n1.toList != n2.toList) = false := by unfold bne; rw [ta1]; rfl
    have ta2 : (pr1 == pr2) = true := beq_iff_eq.2 h2
    have tb2 : (pr1 != pr2) = false := by unfold bne; rw [ta2]; rfl
    have ta3 : (d1 == d2) = true := beq_iff_eq.2 h3
    have tb3 : (d1 != d2) = false := by unfold bne; rw [ta3]; rfl
    have ta4 : (v1 == v2) = false := beq_eq_false_iff_ne.2 h4
    have tb4 : (v1 != v2) = true := by unfold bne; rw [ta4]; rfl
    have hres : sameO p1 n1 l1 pr1 d1 ps1 v1 p2 n2 l2 pr2 d2 ps2 v2 = false := decide_eq_false (by rintro ⟨e0, e1, e5, e2, e3, e6, e4⟩; exact h4 e4)
    rw [hres]
    clear hres HR1 HR2 HR3 HR4 hu37 hu35 h0 h1 h2 h3 h4
    go_enter Tryd.func18, Tryd.ntmps18
    go_wp2
    go_ret
    exact ⟨rfl, ((Below.refl _ _).alloc (Nat.le_refl _) _).alloc (by simp) _⟩
  by_cases h5 : l1.length = l2.length
  rotate_left
  · have ta0 : (p1.toList == p2.toList) = true := beq_t h0
    have tb0 : (p1.toList != p2.toList) = false := by unfold bne; rw [ta0]; rfl
    have ta1 : (n1.toList == n2.toList) = true := beq_t h1
    have tb1 : (n1.toList != n2.toList) = false := by unfold bne; rw [ta1]; rfl
    have ta2 : (pr1 == pr2) = true := beq_iff_eq.2 h2
    have tb2 : (pr1 != pr2) = false := by unfold bne; rw [ta2]; rfl
    have ta3 : (d1 == d2) = true := beq_iff_eq.2 h3
    have tb3 : (d1 != d2) = false := by unfold bne; rw [ta3]; rfl
    have ta4 : (v1 == v2) = true := beq_iff_eq.2 h4
    have tb4 : (v1 != v2) = false := by unfold bne; rw [ta4]; rfl
    have ta5 : ((l1.length : Int) == (l2.length : Int)) = false := beq_eq_false_iff_ne.2 (by omega)
    have tb5 : ((l1.length : Int) != (l2.length : Int)) = true := by unfold bne; rw [ta5]; rfl
    have tc5 : (l1.length == l2.length) = false := beq_eq_false_iff_ne.2 (by omega)
    have td5 : (l1.length != l2.length) = true := by unfold bne; rw [tc5]; rfl
    have hres : sameO p1 n1 l1 pr1 d1 ps1 v1 p2 n2 l2 pr2 d2 ps2 v2 = false := decide_eq_false (by rintro ⟨e0, e1, e5, e2, e3, e6, e4⟩; exact h5 (by rw [e5]))
    rw [hres]
    clear hres HR1 HR2 HR3 HR4 hu37 hu35 h0 h1 h2 h3 h4 h5
    go_enter Tryd.func18, Tryd.ntmps18
    go_wp2
    go_ret
    exact ⟨rfl, ((Below.refl _ _).alloc (Nat.le_refl _) _).alloc (by simp) _⟩
  by_cases h6 : ps1.length = ps2.length
  rotate_left
  · have ta0 : (p1.toList == p2.toList) = true := beq_t h0
    have tb0 : (p1.toList != p2.toList) = false := by unfold bne; rw [ta0]; rfl
    have ta1 : (n1.toList == n2.toList) = true := beq_t h1
    have tb1 : (n1.toList != n2.toList) = false := by unfold bne; rw [ta1]; rfl
    have ta2 : (pr1 == pr2) = true := beq_iff_eq.2 h2
    have tb2 : (pr1 != pr2) = false := by unfold bne; rw [ta2]; rfl
    have ta3 : (d1 == d2) = true := beq_iff_eq.2 h3
    have tb3 : (d1 != d2) = false := by unfold bne; rw [ta3]; rfl
    have ta4 : (v1 == v2) = true := beq_iff_eq.2 h4
    have tb4 : (v1 != v2) = false := by unfold bne; rw [ta4]; rfl
    have ta5 : ((l1.length : Int) == (l2.length : Int)) = true := beq_iff_eq.2 (by omega)
    have tb5 : ((l1.length : Int) != (l2.length : Int)) = false := by unfold bne; rw [ta5]; rfl
    have tc5 : (l1.length == l2.length) = true := beq_iff_eq.2 (by omega)
    have td5 : (l1.length != l2.length) = false := by unfold bne; rw [tc5]; rfl
    have ta6 : ((ps1.length : Int) == (ps2.length : Int)) = false := beq_eq_false_iff_ne.2 (by omega)
    have tb6 : ((ps1.length : Int) != (ps2.length : Int)) = true := by unfold bne; rw [ta6]; rfl
    have tc6 : (ps1.length == ps2.length) = false := beq_eq_false_iff_ne.2 (by omega)
    have td6 : (ps1.length != ps2.length) = true := by unfold bne; rw [tc6]; rfl
    have hres : sameO p1 n1 l1 pr1 d1 ps1 v1 p2 n2 l2 pr2 d2 ps2 v2 = false := decide_eq_false (by rintro ⟨e0, e1, e5, e2, e3, e6, e4⟩; exact h6 (by rw [e6]))
    rw [hres]
    clear hres HR1 HR2 HR3 HR4 hu37 hu35 h0 h1 h2 h3 h4 h5 h6
    go_enter Tryd.func18, Tryd.ntmps18
    go_wp2
    go_ret
    exact ⟨rfl, ((Below.refl _ _).alloc (Nat.le_refl _) _).alloc (by simp) _⟩
  have HH := Lib.hid (And.intro h0 (And.intro h1 (And.intro h2 (And.intro h3 h4))))
  have H5 := Lib.hid h5
  have H6 := Lib.hid h6
  have ta0 : (p1.toList == p2.toList) = true := beq_t h0
  have tb0 : (p1.toList != p2.toList) = false := by unfold bne; rw [ta0]; rfl
  have ta1 : (n1.toList == n2.toList) = true := beq_t h1
  have tb1 : (n1.toList != n2.toList) = false := by unfold bne; rw [ta1]; rfl
  have ta2 : (pr1 == pr2) = true := beq_iff_eq.2 h2
  have tb2 : (pr1 != pr2) = false := by unfold bne; rw [ta2]; rfl
  have ta3 : (d1 == d2) = true := beq_iff_eq.2 h3
  have tb3 : (d1 != d2) = false := by unfold bne; rw [ta3]; rfl
  have ta4 : (v1 == v2) = true := beq_iff_eq.2 h4
  have tb4 : (v1 != v2) = false := by unfold bne; rw [ta4]; rfl
  have ta5 : ((l1.length : Int) == (l2.length : Int)) = true := beq_iff_eq.2 (by omega)
  have tb5 : ((l1.length : Int) != (l2.length : Int)) = false := by unfold bne; rw [ta5]; rfl
  have tc5 : (l1.length == l2.length) = true := beq_iff_eq.2 (by omega)
  have td5 : (l1.length != l2.length) = false := by unfold bne; rw [tc5]; rfl
  have ta6 : ((ps1.length : Int) == (ps2.length : Int)) = true := beq_iff_eq.2 (by omega)
  have tb6 : ((ps1.length : Int) != (ps2.length : Int)) = false := by unfold bne; rw [ta6]; rfl
  have tc6 : (ps1.length == ps2.length) = true := beq_iff_eq.2 (by omega)
  have td6 : (ps1.length != ps2.length) = false := by unfold bne; rw [tc6]; rfl
  clear h0 h1 h2 h3 h4 h5 h6
  go_enter Tryd.func18, Tryd.ntmps18
  go_upto_region 3 with fail
  have hbA := blk_alloc (blk_new w (.cells #[.string p1, .string n1, .slice A2 l1.length c2, .int .i64 pr1, .int .i64 d1, .slice A5 ps1.length c5, .int .i64 v1] 25)) (.cells #[.string p2, .string n2, .slice B2 l2.length e2, .int .i64 pr2, .int .i64 d2, .slice B5 ps2.length e5, .int .i64 v2] 25)
  have hbB := blk_new (w.alloc (.cells #[.string p1, .string n1, .slice A2 l1.length c2, .int .i64 pr1, .int .i64 d1, .slice A5 ps1.length c5, .int .i64 v1] 25)) (.cells #[.string p2, .string n2, .slice B2 l2.length e2, .int .i64 pr2, .int .i64 d2, .slice B5 ps2.length e5, .int .i64 v2] 25)
  rw [show (w.alloc (.cells #[.string p1, .string n1, .slice A2 l1.length c2, .int .i64 pr1, .int .i64 d1, .slice A5 ps1.length c5, .int .i64 v1] 25)).heap.size = w.heap.size + 1 by simp] at hbB
  have hbw : Below w.heap.size w ((w.alloc (.cells #[.string p1, .string n1, .slice A2 l1.length c2, .int .i64 pr1, .int .i64 d1, .slice A5 ps1.length c5, .int .i64 v1] 25)).alloc (.cells #[.string p2, .string n2, .slice B2 l2.length e2, .int .i64 pr2, .int .i64 d2, .slice B5 ps2.length e5, .int .i64 v2] 25)) := ((Below.refl _ _).alloc (Nat.le_refl _) _).alloc (by simp) _
  have HW := Lib.hid hbw
  have BA := Lib.hid hbA
  have BB := Lib.hid hbB
  clear hbA hbB hbw
  generalize (w.alloc _).alloc _ = wb at HW BA BB ⊢
  have hA2 : wb.cell? ⟨w.heap.size, 2, none⟩ = _ := (blk_cell BA.out 2).trans rfl
  have hA5 : wb.cell? ⟨w.heap.size, 5, none⟩ = _ := (blk_cell BA.out 5).trans rfl
  have hB2 : wb.cell? ⟨w.heap.size + 1, 2, none⟩ = _ := (blk_cell BB.out 2).trans rfl
  have hB5 : wb.cell? ⟨w.heap.size + 1, 5, none⟩ = _ := (blk_cell BB.out 5).trans rfl
  have K1 := Lib.hid (Kd.C_below HR1 HW.out)
  have K2 := Lib.hid (Kd.C_below HR2 HW.out)
  have K3 := Lib.hid (Kd.C_below HR3 HW.out)
  have K4 := Lib.hid (Kd.C_below HR4 HW.out)
  have L1 := Lib.hid HR1.2.1
  have L2 := Lib.hid HR2.2.1
  clear HR1 HR2 HR3 HR4
  go_wp2
  go_loopg [5] l1.length (fun g v5 wr => ∃ k : Nat, v5 = .int .i64 (k : Int) ∧ k + g = l1.length ∧ Aside0 (l1.take k = l2.take k) ∧ Drawn0 wb wr)
  case atStart => exact ⟨0, rfl, by omega, ⟨rfl⟩, Drawn0.refl _⟩
  case round =>
    obtain ⟨k, rfl, hg, HT, ⟨m, rfl⟩⟩ := hrel
    cases gk with
    | zero =>
      have b1 : decide ((k : Int) < (l1.length : Int)) = false := decide_eq_false (by omega)
      have b2 : decide (k < l1.length) = false := decide_eq_false (by omega)
      have hle := H5.out
      have HE := Lib.hid (show l1 = l2 by have := HT.out; rw [List.take_of_length_le (by omega), List.take_of_length_le (by omega)] at this; exact this)
      clear hle
      go_wp2
      go_loopg [6] ps1.length (fun g v6 wr => ∃ j : Nat, v6 = .int .i64 (j : Int) ∧ j + g = ps1.length ∧ Aside0 (ps1.take j = ps2.take j) ∧ Aside0 (j ≤ ps1.length) ∧ Drawn0 wb wr)
      case atStart => exact ⟨0, rfl, by omega, ⟨rfl⟩, ⟨by omega⟩, ⟨⟨m, rfl⟩⟩⟩
      case round =>
        obtain ⟨j, rfl, hg2, HT2, HJ, ⟨m2, rfl⟩⟩ := hrel
        cases gk with
        | zero =>
          have b3 : decide ((j : Int) < (ps1.length : Int)) = false := decide_eq_false (by omega)
          have b4 : decide (j < ps1.length) = false := decide_eq_false (by omega)
          go_wp2
          go_ret
          have hle := H6.out
          have he2 : ps1 = ps2 := by have := HT2.out; rw [List.take_of_length_le (by omega), List.take_of_length_le (by omega)] at this; exact this
          refine ⟨?_, HW.out.trans (below_lower_ ((Drawn0.refl wb).step m2).below HW.out.size)⟩
          obtain ⟨q0, q1, q2, q3, q4⟩ := HH.out
          unfold sameO
          rw [decide_eq_true ⟨q0, q1, HE.out, q2, q3, he2, q4⟩]
          rfl
        | succ g2 =>
          have b3 : decide ((j : Int) < (ps1.length : Int)) = true := decide_eq_true (by omega)
          have b4 : decide (j < ps1.length) = true := decide_eq_true (by omega)
          have hj1 : j < ps1.length := by omega
          have hle := H6.out
          have hj2 : j < ps2.length := by omega
          clear hle
          have b5 : decide (j < ps2.length) = true := decide_eq_true (by omega)
          obtain ⟨ad1, A1a, c1a, A2a, c2a, e1, x0, x1, x2, m1, C1, m2', C2⟩ := at_T35 K2.out (j : Int) (by omega) (by omega)
          obtain ⟨ad2, B1a, d1a, B2a, d2a, e2', y0, y1, y2, m3, C3, m4, C4⟩ := at_T35 K4.out (j : Int) (by omega) (by omega)
          cases e1
          cases e2'
          rw [rd35_at ps1 j hj1, Int.toNat_natCast] at x0 x1 x2
          rw [rd35_at ps1 j hj1] at m1 C1 m2' C2
          rw [rd35_at ps2 j hj2, Int.toNat_natCast] at y0 y1 y2
          rw [rd35_at ps2 j hj2] at m3 C3 m4 C4
          obtain ⟨X, hX⟩ : ∃ X, X = ps1[j] := ⟨_, rfl⟩
          obtain ⟨Y, hY⟩ : ∃ Y, Y = ps2[j] := ⟨_, rfl⟩
          rw [← hX] at x0 x1 x2 m1 C1 m2' C2
          rw [← hY] at y0 y1 y2 m3 C3 m4 C4
          have HX := Lib.hid hX
          have HY := Lib.hid hY
          have p1' : ((0 : Int) ≤ (j : Int)) = True := eq_true (by omega)
          have p2' : ((j : Int) < (ps1.length : Int)) = True := eq_true (by omega)
          have p3' : ((j : Int) < (ps2.length : Int)) = True := eq_true (by omega)
          have S1 := Lib.hid (fun (W : World) (hb : Below wb.heap.size wb W) => amts_ok X.f1 Y.f1 A1a c1a B1a d1a W C1.2.1 (Kd.C_below C1 hb) m1 (Kd.C_below C3 hb) m3)
          have S2 := Lib.hid (fun (W : World) (hb : Below wb.heap.size wb W) => amts_ok X.f2 Y.f2 A2a c2a B2a d2a W C2.2.1 (Kd.C_below C2 hb) m2' (Kd.C_below C4 hb) m4)
          clear hX hY m1 C1 m2' C2 m3 C3 m4 C4
          by_cases q0 : X.f0 = Y.f0
          · by_cases q1 : X.f1 = Y.f1
            · by_cases q2 : X.f2 = Y.f2
              · have ta : (X.f0.toList == Y.f0.toList) = true := beq_t q0
                have tb : (X.f0.toList != Y.f0.toList) = false := by unfold bne; rw [ta]; rfl
                have S1_ := S1.out
                have S2_ := S2.out
                clear S1 S2
                simp only [decide_eq_true q1] at S1_
                simp only [decide_eq_true q2] at S2_
                have S1 := Lib.hid S1_
                have S2 := Lib.hid S2_
                clear S1_ S2_
                have HE := Lib.hid ((prt_iff X Y).2 ⟨q0, q1, q2⟩)
                clear q0 q1 q2
                go_wp2
                repeat (go_quiet (first | (go_at_call 44; (with_reducible refine (S1.out _ (by repeat (first | exact Below.refl _ _ | apply pw_below_drewN))).mono ?_); rintro e w2 ⟨rfl, ⟨nd, rfl⟩⟩; refine ⟨rfl, ?_⟩; simp; first | exact ⟨_, rfl⟩ | exact ⟨_, congrArg _ (Nat.add_assoc _ _ _)⟩) | (go_at_call 44; (with_reducible refine (S2.out _ (by repeat (first | exact Below.refl _ _ | apply pw_below_drewN))).mono ?_); rintro e w2 ⟨rfl, ⟨nd, rfl⟩⟩; refine ⟨rfl, ?_⟩; simp; first | exact ⟨_, rfl⟩ | exact ⟨_, congrArg _ (Nat.add_assoc _ _ _)⟩)); try go_wp2)
                go_roundg g2
                case measure => omega
                case rel => exact ⟨j + 1, by rw [w64 j (by have := L2.out; omega)], by omega, ⟨by rw [List.take_succ_eq_append_getElem hj1, List.take_succ_eq_append_getElem hj2, HT2.out, ← HX.out, ← HY.out, HE.out]⟩, ⟨by omega⟩, by repeat (first | exact Drawn0.refl _ | apply Drawn0.step)⟩
              · have ta : (X.f0.toList == Y.f0.toList) = true := beq_t q0
                have tb : (X.f0.toList != Y.f0.toList) = false := by unfold bne; rw [ta]; rfl
                have S1_ := S1.out
                have S2_ := S2.out
                clear S1 S2
                simp only [decide_eq_true q1] at S1_
                simp only [decide_eq_false q2] at S2_
                have S1 := Lib.hid S1_
                have S2 := Lib.hid S2_
                clear S1_ S2_
                have HE := Lib.hid (show ¬ X = Y from fun e => q2 (by rw [e]))
                clear q0 q1 q2
                go_wp2
                repeat (go_quiet (first | (go_at_call 44; (with_reducible refine (S1.out _ (by repeat (first | exact Below.refl _ _ | apply pw_below_drewN))).mono ?_); rintro e w2 ⟨rfl, ⟨nd, rfl⟩⟩; refine ⟨rfl, ?_⟩; simp; first | exact ⟨_, rfl⟩ | exact ⟨_, congrArg _ (Nat.add_assoc _ _ _)⟩) | (go_at_call 44; (with_reducible refine (S2.out _ (by repeat (first | exact Below.refl _ _ | apply pw_below_drewN))).mono ?_); rintro e w2 ⟨rfl, ⟨nd, rfl⟩⟩; refine ⟨rfl, ?_⟩; simp; first | exact ⟨_, rfl⟩ | exact ⟨_, congrArg _ (Nat.add_assoc _ _ _)⟩)); try go_wp2)
                go_ret
                refine ⟨?_, HW.out.trans (below_lower_ ((by repeat (first | exact Drawn0.refl _ | apply Drawn0.step)) : Drawn0 wb _).below HW.out.size)⟩
                unfold sameO
                rw [decide_eq_false (by rintro ⟨_, _, _, _, _, e5, _⟩; exact HE.out (by rw [HX.out, HY.out]; simp only [e5]))]
                rfl
            · have ta : (X.f0.toList == Y.f0.toList) = true := beq_t q0
              have tb : (X.f0.toList != Y.f0.toList) = false := by unfold bne; rw [ta]; rfl
              have S1_ := S1.out
              have S2_ := S2.out
              clear S1 S2
              simp only [decide_eq_false q1] at S1_
              have S1 := Lib.hid S1_
              have S2 := Lib.hid S2_
              clear S1_ S2_
              have HE := Lib.hid (show ¬ X = Y from fun e => q1 (by rw [e]))
              clear q0 q1
              go_wp2
              repeat (go_quiet (first | (go_at_call 44; (with_reducible refine (S1.out _ (by repeat (first | exact Below.refl _ _ | apply pw_below_drewN))).mono ?_); rintro e w2 ⟨rfl, ⟨nd, rfl⟩⟩; refine ⟨rfl, ?_⟩; simp; first | exact ⟨_, rfl⟩ | exact ⟨_, congrArg _ (Nat.add_assoc _ _ _)⟩) | (go_at_call 44; (with_reducible refine (S2.out _ (by repeat (first | exact Below.refl _ _ | apply pw_below_drewN))).mono ?_); rintro e w2 ⟨rfl, ⟨nd, rfl⟩⟩; refine ⟨rfl, ?_⟩; simp; first | exact ⟨_, rfl⟩ | exact ⟨_, congrArg _ (Nat.add_assoc _ _ _)⟩)); try go_wp2)
              go_ret
              refine ⟨?_, HW.out.trans (below_lower_ ((by repeat (first | exact Drawn0.refl _ | apply Drawn0.step)) : Drawn0 wb _).below HW.out.size)⟩
              unfold sameO
              rw [decide_eq_false (by rintro ⟨_, _, _, _, _, e5, _⟩; exact HE.out (by rw [HX.out, HY.out]; simp only [e5]))]
              rfl
          · have ta : (X.f0.toList == Y.f0.toList) = false := beq_f q0
            have tb : (X.f0.toList != Y.f0.toList) = true := by unfold bne; rw [ta]; rfl
            have HE := Lib.hid (show ¬ X = Y from fun e => q0 (by rw [e]))
            clear q0
            go_wp2
            repeat (go_quiet (first | (go_at_call 44; (with_reducible refine (S1.out _ (by repeat (first | exact Below.refl _ _ | apply pw_below_drewN))).mono ?_); rintro e w2 ⟨rfl, ⟨nd, rfl⟩⟩; refine ⟨rfl, ?_⟩; simp; first | exact ⟨_, rfl⟩ | exact ⟨_, congrArg _ (Nat.add_assoc _ _ _)⟩) | (go_at_call 44; (with_reducible refine (S2.out _ (by repeat (first | exact Below.refl _ _ | apply pw_below_drewN))).mono ?_); rintro e w2 ⟨rfl, ⟨nd, rfl⟩⟩; refine ⟨rfl, ?_⟩; simp; first | exact ⟨_, rfl⟩ | exact ⟨_, congrArg _ (Nat.add_assoc _ _ _)⟩)); try go_wp2)
            go_ret
            refine ⟨?_, HW.out.trans (below_lower_ ((by repeat (first | exact Drawn0.refl _ | apply Drawn0.step)) : Drawn0 wb _).below HW.out.size)⟩
            unfold sameO
            rw [decide_eq_false (by rintro ⟨_, _, _, _, _, e5, _⟩; exact HE.out (by rw [HX.out, HY.out]; simp only [e5]))]
            rfl
    | succ g =>
      have b1 : decide ((k : Int) < (l1.length : Int)) = true := decide_eq_true (by omega)
      have b2 : decide (k < l1.length) = true := decide_eq_true (by omega)
      have hk1 : k < l1.length := by omega
      have hle := H5.out
      have hk2 : k < l2.length := by omega
      clear hle
      have b3 : decide ((k : Int) < (l2.length : Int)) = true := decide_eq_true (by omega)
      have b4 : decide (k < l2.length) = true := decide_eq_true (by omega)
      obtain ⟨ad1, e1, x0, x1⟩ := at_T37 K1.out (k : Int) (by omega) (by omega)
      obtain ⟨ad2, e2', y0, y1⟩ := at_T37 K3.out (k : Int) (by omega) (by omega)
      cases e1
      cases e2'
      rw [rd37_at l1 k hk1, Int.toNat_natCast] at x0 x1
      rw [rd37_at l2 k hk2, Int.toNat_natCast] at y0 y1
      obtain ⟨X, hX⟩ : ∃ X, X = l1[k] := ⟨_, rfl⟩
      obtain ⟨Y, hY⟩ : ∃ Y, Y = l2[k] := ⟨_, rfl⟩
      rw [← hX] at x0 x1
      rw [← hY] at y0 y1
      have HX := Lib.hid hX
      have HY := Lib.hid hY
      clear hX hY
      have p1' : ((0 : Int) ≤ (k : Int)) = True := eq_true (by omega)
      have p2' : ((k : Int) < (l1.length : Int)) = True := eq_true (by omega)
      have p3' : ((k : Int) < (l2.length : Int)) = True := eq_true (by omega)
      by_cases he : X = Y
      · have c7 : (!((X.f0.toList) == (Y.f0.toList)) || (!((X.f1.toList) == (Y.f1.toList)))) = false := by rw [he]; simp
        have HE := Lib.hid he
        clear he
        go_wp2
        repeat (go_quiet (fail); try go_wp2)
        go_roundg g
        case measure => omega
        case rel => exact ⟨k + 1, by rw [w64 k (by have := L1.out; omega)], by omega, ⟨by rw [List.take_succ_eq_append_getElem hk1, List.take_succ_eq_append_getElem hk2, HT.out, ← HX.out, ← HY.out, HE.out]⟩, by repeat (first | exact Drawn0.refl _ | apply Drawn0.step)⟩
      · have c7 : (!((X.f0.toList) == (Y.f0.toList)) || (!((X.f1.toList) == (Y.f1.toList)))) = true := by
          rw [lab_iff] at he
          simp only [Bool.or_eq_true, Bool.not_eq_true', beq_eq_false_iff_ne, Ne]
          by_cases e0 : X.f0 = Y.f0
          · exact .inr (fun e => he ⟨e0, (ba_iff _ _).1 e⟩)
          · exact .inl (fun e => e0 ((ba_iff _ _).1 e))
        have HE := Lib.hid he
        clear he
        go_wp2
        repeat (go_quiet (fail); try go_wp2)
        go_ret
        refine ⟨?_, HW.out.trans (below_lower_ ((by repeat (first | exact Drawn0.refl _ | apply Drawn0.step)) : Drawn0 wb _).below HW.out.size)⟩
        unfold sameO
        rw [decide_eq_false (by rintro ⟨_, _, e2, _⟩; exact HE.out (by rw [HX.out, HY.out]; simp only [e2]))]
        rfl
theorem bursarlaw13_sameObject.calls (p1 n1 : ByteArray) (A2 : Option Addr) (c2 : Nat) (l1 : List Lab) (pr1 d1 : Int) (A5 : Option Addr) (c5 : Nat) (ps1 : List Prt) (v1 : Int) (p2 n2 : ByteArray) (B2 : Option Addr) (e2 : Nat) (l2 : List Lab) (pr2 d2 : Int) (B5 : Option Addr) (e5 : Nat) (ps2 : List Prt) (v2 : Int) (r : Bool) (w : World)
    (HR1 : Kd.C k37 w A2 l1.length l1) (hc1 : l1.length ≤ c2) (HR2 : Kd.C k35 w A5 ps1.length ps1) (hc2 : ps1.length ≤ c5) (HR3 : Kd.C k37 w B2 l2.length l2) (hc3 : l2.length ≤ e2) (HR4 : Kd.C k35 w B5 ps2.length ps2) (hc4 : ps2.length ≤ e5)
    (h : bursarlaw13_sameObject.f p1 n1 l1 pr1 d1 ps1 v1 p2 n2 l2 pr2 d2 ps2 v2 = some r) :
    Calls Tryd.prog 18 #[.agg #[.string p1, .string n1, .slice A2 l1.length c2, .int .i64 pr1, .int .i64 d1, .slice A5 ps1.length c5, .int .i64 v1], .agg #[.string p2, .string n2, .slice B2 l2.length e2, .int .i64 pr2, .int .i64 d2, .slice B5 ps2.length e5, .int .i64 v2]] w
      fun e w' => e = .returned (.bool r) ∧ Below w.heap.size w w' := by
  obtain rfl := Option.some.inj h
  exact same_ok p1 n1 A2 c2 l1 pr1 d1 A5 c5 ps1 v1 p2 n2 B2 e2 l2 pr2 d2 B5 e5 ps2 v2 w HR1 HR2 HR3 HR4
end Go.Proofs.YtniolbolfclhkaaDoor.Q
namespace Go.Proofs.YtniolbolfclhkaaDoor.Q
open Go.RowKit Go.Proofs.YtniolbolfclhkaaDoorW.PrintWords Go.Proofs.YtniolbolfclhkaaDoorW.PrintLast
set_option linter.unusedVariables false
set_option linter.unusedSimpArgs false
def okByte (c : UInt8) : Bool := (97 ≤ c.toNat && c.toNat ≤ 122) || (48 ≤ c.toNat && c.toNat ≤ 57) || c.toNat == 45
def nameB (s : ByteArray) : Bool := decide (1 ≤ s.size) && decide (s.size ≤ 32) && decide (bt s 0 ≠ 45) && decide (bt s ((s.size : Int) - 1) ≠ 45) && s.data.toList.all okByte
def label_Name.f (a0 : ByteArray) : Option (Bool) := some (nameB a0)
theorem all_at (s : ByteArray) (n : Nat) (h : ∀ j, (hj : j < s.size) → okByte (s[j]'hj) = true) : s.data.toList.all okByte = true := by
  rw [List.all_eq_true]
  intro x hx
  obtain ⟨i, hi, rfl⟩ := List.getElem_of_mem hx
  have hi' : i < s.size := by simpa using hi
  exact h i hi'
theorem not_all_at (s : ByteArray) (j : Nat) (hj : j < s.size) (h : okByte (s[j]'hj) = false) : s.data.toList.all okByte = false := by
  rw [List.all_eq_false]
  refine ⟨s[j]'hj, ?_, by simp [h]⟩
  have : s.data.toList[j]'(by simpa using hj) = s[j]'hj := by simp; rfl
  rw [← this]
  exact List.getElem_mem _
theorem nameB_false {s : ByteArray} (h : s.size < 1 ∨ 32 < s.size ∨ bt s 0 = 45 ∨ bt s ((s.size : Int) - 1) = 45 ∨ s.data.toList.all okByte = false) : nameB s = false := by
  unfold nameB
  rcases h with h | h | h | h | h
  · have : decide (1 ≤ s.size) = false := decide_eq_false (by omega)
    simp [this]
  · have : decide (s.size ≤ 32) = false := decide_eq_false (by omega)
    simp [this]
  · simp [h]
  · simp [h]
  · simp [h]
theorem nameB_true {s : ByteArray} (h1 : 1 ≤ s.size) (h2 : s.size ≤ 32) (h3 : bt s 0 ≠ 45) (h4 : bt s ((s.size : Int) - 1) ≠ 45) (h5 : s.data.toList.all okByte = true) : nameB s = true := by
  unfold nameB
  simp [h1, h2, h3, h4, h5]
theorem bt_get (s : ByteArray) (i : Nat) (h : i < s.size) : ((s[i]'h).toNat : Int) = bt s i := by
  unfold bt; simp [h]
def plB (c : Int) : Bool := (decide (97 ≤ c) && decide (c ≤ 122)) || (decide (48 ≤ c) && decide (c ≤ 57))
theorem plB_iff (c : Int) : plB c = true ↔ (97 ≤ c ∧ c ≤ 122) ∨ (48 ≤ c ∧ c ≤ 57) := by unfold plB; simp
theorem plB_not (c : Int) (h : ¬ ((97 ≤ c ∧ c ≤ 122) ∨ (48 ≤ c ∧ c ≤ 57))) : plB c = false := by
  rw [← plB_iff] at h; simpa using h
theorem ok_iff (c : UInt8) : okByte c = true ↔ plB c.toNat = true ∨ (c.toNat : Int) = 45 := by
  unfold okByte plB; simp; omega
set_option maxHeartbeats 4000000 in
set_option maxRecDepth 100000 in
theorem plain_any (c : Int) (w : World) : Calls Tryd.prog 55 #[.int .i32 c] w fun e w' => e = .returned (.bool (plB c)) ∧ w' = w := by
  by_cases h1 : 97 ≤ c
  · by_cases h2 : c ≤ 122
    · rw [(plB_iff c).2 (.inl ⟨h1, h2⟩)]
      go_enter Tryd.func55, Tryd.ntmps55
      go_wp2
      go_ret
      exact ⟨rfl, rfl⟩
    · rw [plB_not c (by omega)]
      have h3 : 48 ≤ c := by omega
      have h4 : decide (c ≤ 57) = false := decide_eq_false (by omega)
      have h5 : decide (c ≤ 122) = false := decide_eq_false (by omega)
      go_enter Tryd.func55, Tryd.ntmps55
      go_wp2
      go_ret
      exact ⟨rfl, rfl⟩
  · by_cases h2 : 48 ≤ c
    · by_cases h3 : c ≤ 57
      · rw [(plB_iff c).2 (.inr ⟨h2, h3⟩)]
        go_enter Tryd.func55, Tryd.ntmps55
        go_wp2
        go_ret
        exact ⟨rfl, rfl⟩
      · rw [plB_not c (by omega)]
        have h4 : decide (c ≤ 57) = false := decide_eq_false (by omega)
        go_enter Tryd.func55, Tryd.ntmps55
        go_wp2
        go_ret
        exact ⟨rfl, rfl⟩
    · rw [plB_not c (by omega)]
      go_enter Tryd.func55, Tryd.ntmps55
      go_wp2
      go_ret
      exact ⟨rfl, rfl⟩
theorem iter_below {w : World} (s : ByteArray) (p : Nat) : Below w.heap.size w (w.iter s p) := (Below.refl _ _).alloc (Nat.le_refl _) _
set_option maxHeartbeats 4000000 in
set_option maxRecDepth 100000 in
theorem label_Name.calls (a0 : ByteArray) (r : Bool) (w : World) (h : label_Name.f a0 = some r) :
    Calls Tryd.prog 29 #[.string a0] w fun e w' => e = .returned (.bool r) ∧ Below w.heap.size w w' := by
  obtain rfl : nameB a0 = r := Option.some.inj h
  clear h
  by_cases h1 : a0.size < 1
  · rw [nameB_false (.inl h1)]
    have e1 : decide ((a0.size : Int) < 1) = true := by simp; omega
    go_enter Tryd.func29, Tryd.ntmps29
    go_wp2
    go_ret
    exact ⟨rfl, Below.refl _ _⟩
  have e1 : decide ((a0.size : Int) < 1) = false := by simp; omega
  by_cases h2 : 32 < a0.size
  · rw [nameB_false (.inr (.inl h2))]
    have e2 : decide ((32 : Int) < (a0.size : Int)) = true := by simp; omega
    clear h1
    go_enter Tryd.func29, Tryd.ntmps29
    go_wp2
    go_ret
    exact ⟨rfl, Below.refl _ _⟩
  have e2 : decide ((32 : Int) < (a0.size : Int)) = false := by simp; omega
  have hp : 0 < a0.size := by omega
  have hb0 : ((a0[0]'hp).toNat : Int) = bt a0 0 := bt_get a0 0 hp
  by_cases h3 : bt a0 0 = 45
  · rw [nameB_false (.inr (.inr (.inl h3)))]
    rw [h3] at hb0
    clear h3
    have e3 : (((a0[0]'hp).toNat : Int) == 45) = true := by simp; omega
    go_enter Tryd.func29, Tryd.ntmps29
    go_wp2
    go_ret
    exact ⟨rfl, Below.refl _ _⟩
  have e3 : (((a0[0]'hp).toNat : Int) == 45) = false := by rw [hb0]; simpa using h3
  have hlo : 1 ≤ a0.size := by omega
  have hhi : a0.size ≤ 32 := by omega
  have h3' := Lib.hid h3
  clear h1 h2 h3 hb0
  have hl : a0.size - 1 < a0.size := by omega
  have hb1 : ((a0[a0.size - 1]'hl).toNat : Int) = bt a0 ((a0.size : Int) - 1) := by rw [bt_get a0 _ hl]; congr 1; omega
  by_cases h4 : bt a0 ((a0.size : Int) - 1) = 45
  · rw [nameB_false (.inr (.inr (.inr (.inl h4))))]
    rw [h4] at hb1
    clear h4
    have e4 : (((a0[a0.size - 1]'hl).toNat : Int) == 45) = true := by simp; omega
    go_enter Tryd.func29, Tryd.ntmps29
    go_wp2
    go_ret
    exact ⟨rfl, Below.refl _ _⟩
  have e4 : (((a0[a0.size - 1]'hl).toNat : Int) == 45) = false := by rw [hb1]; simpa using h4
  have h4' := Lib.hid h4
  clear h4 hb1
  go_enter Tryd.func29, Tryd.ntmps29
  go_wp2
  go_loopg [] a0.size (fun g wx => ∃ pos : Nat, wx = w.iter a0 pos ∧ pos ≤ a0.size ∧ a0.size ≤ pos + g ∧ Aside0 (∀ j, (hj : j < pos) → (hj2 : j < a0.size) → okByte (a0[j]'hj2) = true))
  case atStart => exact ⟨0, rfl, by omega, by omega, ⟨fun j hj => by omega⟩⟩
  case round =>
    obtain ⟨pos, rfl, hps, hpg, hall⟩ := hrel
    by_cases hlt : pos < a0.size
    · cases gk with
      | zero => omega
      | succ g =>
        cases hok : okByte (a0[pos]'hlt) with
        | true =>
          have hok' := (ok_iff _).1 hok
          have ha : (a0[pos]'hlt).toNat < 128 := by
            rcases hok' with h | h
            · have := (plB_iff _).1 h; omega
            · omega
          have hall2 := Lib.hid (show ∀ j, (hj : j < pos + 1) → (hj2 : j < a0.size) → okByte (a0[j]'hj2) = true from fun j hj hj2 => by
            rcases Nat.lt_or_ge j pos with h | h
            · exact hall.out j h hj2
            · have e : j = pos := by omega
              subst e
              exact hok)
          have hnx := fun ty => run_next_ascii (P := Tryd.prog) w a0 pos ty hlt ha
          clear hall hok
          rcases hok' with h | h
          · go_wp2_with (go_at_call 55; refine (plain_any _ _).mono ?_; rintro e w' ⟨rfl, rfl⟩)
            go_roundg g
            case measure => omega
            case rel => exact ⟨pos + 1, rfl, by omega, by omega, ⟨hall2.out⟩⟩
          · cases hpl : plB ((a0[pos]'hlt).toNat : Int) with
            | true =>
              clear h
              go_wp2_with (go_at_call 55; refine (plain_any _ _).mono ?_; rintro e w' ⟨rfl, rfl⟩)
              go_roundg g
              case measure => omega
              case rel => exact ⟨pos + 1, rfl, by omega, by omega, ⟨hall2.out⟩⟩
            | false =>
              have e5 : (((a0[pos]'hlt).toNat : Int) != 45) = false := by rw [h]; rfl
              clear h
              go_wp2_with (go_at_call 55; refine (plain_any _ _).mono ?_; rintro e w' ⟨rfl, rfl⟩)
              go_roundg g
              case measure => omega
              case rel => exact ⟨pos + 1, rfl, by omega, by omega, ⟨hall2.out⟩⟩
        | false =>
          have hfin := Lib.hid (nameB_false (.inr (.inr (.inr (.inr (not_all_at a0 pos hlt hok))))))
          have hc : plB ((Utf8.decode a0 pos).1 : Int) = false ∧ ((((Utf8.decode a0 pos).1 : Nat) : Int) != 45) = true := by
            by_cases ha : (a0[pos]'hlt).toNat < 128
            · rw [decode_ascii a0 pos hlt ha]
              refine ⟨?_, ?_⟩
              · cases h : plB ((a0[pos]'hlt).toNat : Int) with
                | false => rfl
                | true => rw [(ok_iff _).2 (.inl h)] at hok; cases hok
              · rw [bne_iff_ne]
                intro h
                rw [(ok_iff _).2 (.inr h)] at hok; cases hok
            · have := (decode_high a0 pos hlt (by omega)).1
              exact ⟨plB_not _ (by omega), by rw [bne_iff_ne]; omega⟩
          obtain ⟨hc1, hc2⟩ := hc
          have hnx := fun ty => run_next_any (P := Tryd.prog) w a0 pos ty hlt
          clear hall hok
          generalize (Utf8.decode a0 pos).1 = cc at *
          generalize (Utf8.decode a0 pos).2 = dd at *
          go_wp2_with (go_at_call 55; refine (plain_any _ _).mono ?_; rintro e w' ⟨rfl, rfl⟩)
          go_ret
          exact ⟨by rw [hfin.out]; rfl, iter_below _ _⟩
    · obtain rfl : pos = a0.size := by omega
      have hfin := Lib.hid (nameB_true hlo hhi h3'.out h4'.out (all_at a0 a0.size (fun j hj => hall.out j hj hj)))
      have hnx := run_next_end (P := Tryd.prog) w a0 a0.size
      clear hall
      go_wp2
      go_ret
      exact ⟨by rw [hfin.out]; rfl, iter_below _ _⟩
end Go.Proofs.YtniolbolfclhkaaDoor.Q
namespace Go.Proofs.YtniolbolfclhkaaDoor.Q
open Go.RowKit Go.Proofs.YtniolbolfclhkaaDoorW.PrintWords Go.Proofs.YtniolbolfclhkaaDoorW.PrintLast Go.Proofs.YtniolbolfclhkaaDoorW.PrintMore
attribute [local go_sem] max2_int min2_int max_two min_two max_three min_three max_four min_four   -- for this text's walks alone
set_option linter.unusedVariables false
set_option linter.unusedSimpArgs false
def label_value.f (a0 : ByteArray) : Option (Bool) := if a0.toList = ([] : List UInt8) then (some true) else ((label_Name.f a0).bind fun t466 => (some t466))
set_option maxHeartbeats 8000000 in
set_option maxRecDepth 100000 in
theorem label_value.calls (a0 : ByteArray) (r : Bool) (w : World) (h : label_value.f a0 = some r) :
  Calls Tryd.prog 65 #[.string a0] w fun e w' => e = .returned (.bool r) ∧ Below w.heap.size w w':=by
 have HB:=Aside0.mk (Below.refl w.heap.size w)
 have H : (if a0.toList = ([] : List UInt8) then (some true) else ((label_Name.f a0).bind fun t466 => (some t466))) = some r:=h
 clear h
 by_cases c2 : a0.toList = ([] : List UInt8)
 ·rw [if_pos c2] at H
  have c2b0 : (a0.toList == ([] : List UInt8)) = true:=beq_iff_eq.mpr c2
  have c2b1 : (a0.toList != ([] : List UInt8)) = false:=bne_eq_false_iff_eq.mpr c2
  clear c2
  obtain rfl:=Option.some.inj H
  go_enter Tryd.func65,Tryd.ntmps65
  go_wp2
  go_ret
  exact ⟨by first|rfl|(simp [errW_none,errW_some] <;> rfl)|(simp [*,errW_none,errW_some] <;> rfl),by repeat (first|(with_reducible first|exact HB.out|apply below_alloc|apply pw_below_drewN|apply below_drew1)|exact HB.out)⟩
 ·rw [if_neg c2] at H
  have c2b0 : (a0.toList == ([] : List UInt8)) = false:=beq_eq_false_iff_ne.mpr c2
  have c2b1 : (a0.toList != ([] : List UInt8)) = true:=bne_iff_ne.mpr c2
  replace H:=Option.bind_eq_some_iff.mp H
  obtain ⟨t466,A30,H⟩:=H
  replace H : (some t466) = some r:=H
  have A3:=Aside0.mk A30
  clear A30
  obtain rfl:=Option.some.inj H
  go_enter Tryd.func65,Tryd.ntmps65
  go_wp2_with (first|(go_at_call 29;(with_reducible refine (label_Name.calls a0 t466 _ A3.out).mono ?_);rintro e w4 ⟨rfl,hb⟩;have n0_:=Aside0.mk (below_step (by repeat (first|(with_reducible first|exact HB.out|apply below_alloc|apply pw_below_drewN|apply below_drew1)|exact HB.out)) hb);clear HB;have HB:=n0_;clear n0_;(try clear hb);(try clear hb2);(try clear hk);(try clear hi)))
  go_ret
  exact ⟨by first|rfl|(simp [errW_none,errW_some] <;> rfl)|(simp [*,errW_none,errW_some] <;> rfl),by repeat (first|(with_reducible first|exact HB.out|apply below_alloc|apply pw_below_drewN|apply below_drew1)|exact HB.out)⟩
end Go.Proofs.YtniolbolfclhkaaDoor.Q
namespace Go.Proofs.YtniolbolfclhkaaDoor.Q
open Go.RowKit Go.Proofs.YtniolbolfclhkaaDoorW.PrintWords Go.Proofs.YtniolbolfclhkaaDoorW.PrintLast
set_option linter.unusedVariables false
set_option linter.unusedSimpArgs false
theorem less_trans : ∀ x y z : List UInt8, Op.bytesLess x y = true → Op.bytesLess y z = true → Op.bytesLess x z = true
  | _, [], _, h, _ => by simp [Op.bytesLess] at h
  | _, _ :: _, [], _, h => by simp [Op.bytesLess] at h
  | [], _ :: _, _ :: _, _, _ => rfl
  | a :: x, b :: y, c :: z, h, k => by
    simp only [Op.bytesLess, Bool.or_eq_true, Bool.and_eq_true, decide_eq_true_eq, beq_iff_eq] at h k ⊢
    rcases h with h | ⟨rfl, h⟩
    · rcases k with k | ⟨rfl, k⟩
      · exact .inl (UInt8.lt_trans h k)
      · exact .inl h
    · rcases k with k | ⟨rfl, k⟩
      · exact .inl k
      · exact .inr ⟨rfl, less_trans x y z h k⟩
theorem less_total : ∀ x y : List UInt8, (Op.bytesLess x y || x == y) = !Op.bytesLess y x
  | [], [] => rfl
  | [], _ :: _ => rfl
  | _ :: _, [] => rfl
  | a :: x, b :: y => by
    have ih := less_total x y
    simp only [Op.bytesLess]
    rcases Nat.lt_trichotomy a.toNat b.toNat with h | h | h
    · have h1 : decide (a < b) = true := decide_eq_true (UInt8.lt_iff_toNat_lt.2 h)
      have h2 : decide (b < a) = false := decide_eq_false (fun e => by have := UInt8.lt_iff_toNat_lt.1 e; omega)
      have h3 : (b == a) = false := beq_eq_false_iff_ne.2 (fun e => by rw [e] at h; omega)
      rw [h1, h2, h3]; rfl
    · have e : a = b := UInt8.toNat_inj.1 h
      subst e
      have h1 : decide (a < a) = false := decide_eq_false (UInt8.lt_irrefl a)
      rw [h1, beq_self_eq_true, Bool.false_or, Bool.true_and, Bool.false_or, Bool.true_and, ← ih]
      congr 1
      show (a == a && x == y) = _
      rw [beq_self_eq_true, Bool.true_and]
    · have h1 : decide (a < b) = false := decide_eq_false (fun e => by have := UInt8.lt_iff_toNat_lt.1 e; omega)
      have h2 : decide (b < a) = true := decide_eq_true (UInt8.lt_iff_toNat_lt.2 h)
      have h3 : (a == b) = false := beq_eq_false_iff_ne.2 (fun e => by rw [e] at h; omega)
      have h4 : ((a :: x) == (b :: y)) = false := by show (a == b && x == y) = false; rw [h3]; rfl
      rw [h1, h2, h3, h4]; rfl
theorem binOp_leq_ (t : TypeId) (a b : ByteArray) : binOp .leq t (.string a) (.string b) = pure (.bool (!Op.bytesLess b.toList a.toList)) := by
  rw [← less_total]; simp [binOp, Op.stringOp]
theorem binOp_gtr_ (t : TypeId) (a b : ByteArray) : binOp .gtr t (.string a) (.string b) = pure (.bool (Op.bytesLess b.toList a.toList)) := by
  have h := less_total a.toList b.toList
  have e : Op.bytesLess b.toList a.toList = !(Op.bytesLess a.toList b.toList || a.toList == b.toList) := by rw [h, Bool.not_not]
  rw [e]; simp [binOp, Op.stringOp]
theorem binOp_geq_ (t : TypeId) (a b : ByteArray) : binOp .geq t (.string a) (.string b) = pure (.bool (!Op.bytesLess a.toList b.toList)) := by simp [binOp, Op.stringOp]
end Go.Proofs.YtniolbolfclhkaaDoor.Q
namespace Go.Proofs.YtniolbolfclhkaaDoor.Q
open Go.RowKit Go.Proofs.YtniolbolfclhkaaDoorW.PrintWords Go.Proofs.YtniolbolfclhkaaDoorW.PrintLast Go.Proofs.YtniolbolfclhkaaDoorW.PrintMore
attribute [local go_sem] binOp_leq_ binOp_gtr_ binOp_geq_ max2_int min2_int max_two min_two max_three min_three max_four min_four   -- for this text's walks alone
set_option linter.unusedVariables false
set_option linter.unusedSimpArgs false
def label_Valid.l0 : Nat → List (S37) → List (S37) → Int → Int → Option (Int)
|0,_,_,_,_ => none
|k + 1,x0,x8,x9,x10 => if x10 < x9 then (if 0 ≤ x10 then (if x10 < (x8.length : Int) then ((label_Name.f ((rd_T37 x8 x10).f0)).bind fun t469 => (if t469 = true then ((label_value.f ((rd_T37 x8 x10).f1)).bind fun t470 => (if t470 = true then (if x10 > 0 then (if 0 ≤ (wrap64 (x10 - 1)) then (if (wrap64 (x10 - 1)) < (x0.length : Int) then (if ((Op.bytesLess (((rd_T37 x0 (wrap64 (x10 - 1))).f0).toList) (((rd_T37 x8 x10).f0).toList)) = true) then (label_Valid.l0 k x0 x8 x9 (wrap64 (x10 + 1))) else (some 42)) else (none)) else (none)) else (label_Valid.l0 k x0 x8 x9 (wrap64 (x10 + 1)))) else (some 42))) else (some 42))) else (none)) else (none)) else (some 0)
def label_Valid.f (k : Nat) (l0 : List (S37)) : Option (Int) := if (l0.length : Int) > 16 then (some 42) else (label_Valid.l0 k l0 l0 (l0.length : Int) 0)
theorem label_Valid.mono_l : ∀ k, (∀ y0 y1 y2 y3, LeO (label_Valid.l0 k y0 y1 y2 y3) (label_Valid.l0 (k + 1) y0 y1 y2 y3))
|0 => fun _ _ _ _ r h => by simp [label_Valid.l0] at h
|k + 1 => by
  have ih0:=label_Valid.mono_l k
  ·intro y0 y1 y2 y3
   unfold label_Valid.l0
   repeat' first
  |(with_reducible exact ih0 _ _ _ _)
  |(with_reducible exact LeO.refl _)
  |(with_reducible exact LeO.none _)
  |(with_reducible refine LeO.ite ?_ ?_)
  |(with_reducible refine LeO.bind ?_ (fun _ => ?_))
  |exact ih0 _ _ _ _
  |exact LeO.none _
  |refine LeO.ite ?_ ?_
  |refine LeO.bind ?_ (fun _ => ?_)
theorem label_Valid.mono : ∀ a0 k, LeO (label_Valid.f k a0) (label_Valid.f (k + 1) a0) := by
 intro a0 k
 have ih0:=label_Valid.mono_l k
 unfold label_Valid.f
 repeat' first
  |(with_reducible exact ih0 _ _ _ _)
  |(with_reducible exact LeO.refl _)
  |(with_reducible exact LeO.none _)
  |(with_reducible refine LeO.ite ?_ ?_)
  |(with_reducible refine LeO.bind ?_ (fun _ => ?_))
  |exact ih0 _ _ _ _
  |exact LeO.none _
  |refine LeO.ite ?_ ?_
  |refine LeO.bind ?_ (fun _ => ?_)
def label_Valid.T6 : Bool × List (List Nat × List Nat) := (true, [([], []), ([0], [0]), ([1], [1]), ([2], [2]), ([3, 2], [3]), ([4], [4]), ([5, 4], [4, 5]), ([6, 4, 4], [4, 6]), ([7, 4], [4, 7]), ([4, 8], [4, 8]), ([9, 7], [9]), ([10], [10]), ([11, 10], [10, 11]), ([12, 10, 10], [10, 12]), ([13], [13]), ([13], [13]), ([15, 13], [13, 15]), ([14, 16, 13], [13, 14, 16]), ([17, 13], [13, 17]), ([18, 13], [13, 18]), ([13], [13]), ([20, 13], [13, 20]), ([19, 21, 13], [13, 19, 21]), ([13, 22, 10], [10, 13, 22]), ([10, 23], [10, 23])])
def label_Valid.B6 : List Nat := [0, 1, 3, 7, 15, 31, 63, 127, 255, 511, 1023, 2047, 4095, 8191, 16383, 16383, 49151, 131071, 262143, 524287, 16383, 1064959, 4194303, 8388607, 16777215]
theorem label_Valid.tab6 : rtab .any (opsOf Tryd.f45 6) = label_Valid.T6 := by kernel_rfl
theorem label_Valid.bits6 : waitsOk label_Valid.T6.2 label_Valid.B6 = true := by kernel_rfl
set_option maxHeartbeats 8000000 in
set_option maxRecDepth 100000 in
theorem label_Valid.calls (k : Nat) (A0 : Option Addr) (c0 : Nat) (l0 : List (S37)) (r : Int) (w : World) (hr0 : Kd.C k37 w A0 l0.length l0) (hc0 : l0.length ≤ c0) (h : label_Valid.f k l0 = some r) :
  Calls Tryd.prog 45 #[.slice A0 l0.length c0] w fun e w' => e = .returned (.int .i64 r) ∧ Below w.heap.size w w':=by
 have hu37:=Tryd.underlying37
 have HR0:=Aside0.mk hr0
 have HC0:=Aside0.mk hc0
 clear hr0 hc0
 have HB:=Aside0.mk (Below.refl w.heap.size w)
 have H : (if (l0.length : Int) > 16 then (some 42) else (label_Valid.l0 k l0 l0 (l0.length : Int) 0)) = some r:=h
 clear h
 by_cases c2 : (l0.length : Int) > 16
 ·rw [if_pos c2] at H
  have c2b0 : decide (16 < (l0.length : Int)) = true:=decide_eq_true c2
  have c2b1 : decide (16 < l0.length) = true:=decide_eq_true (by omega)
  clear c2
  obtain rfl:=Option.some.inj H
  go_enter Tryd.func45,Tryd.ntmps45
  go_wp2
  go_ret
  exact ⟨by first|rfl|(simp [errW_none,errW_some] <;> rfl)|(simp [*,errW_none,errW_some] <;> rfl),by repeat (first|(with_reducible first|exact HB.out|apply below_alloc|apply pw_below_drewN|apply below_drew1)|exact HB.out)⟩
 rw [if_neg c2] at H
 have c2b0 : decide (16 < (l0.length : Int)) = false:=decide_eq_false c2
 have c2b1 : decide (16 < l0.length) = false:=decide_eq_false (by omega)
 clear c2
 have H':=Aside0.mk H
 clear H
 go_enter Tryd.func45,Tryd.ntmps45
 go_wp2
 go_loopg [10] k (fun kq v10 w' => ∃ (x10_1 : Int),v10 = .int .i64 x10_1 ∧ Aside0 (label_Valid.l0 kq l0 l0 (l0.length : Int) x10_1 = some r) ∧ Aside0 (kq ≤ k) ∧ Aside0 (Below w.heap.size w w'))
 case atStart => exact ⟨(0),(by first|rfl|(simp;done)|(simp [*];done)|(simp;rw [Bool.eq_iff_iff];simp;done)|(rw [Bool.eq_iff_iff];simp;done)),H',⟨Nat.le_refl _⟩,⟨by repeat (first|(with_reducible first|exact HB.out|apply below_alloc|apply pw_below_drewN|apply below_drew1)|exact HB.out)⟩⟩
 case round =>
  clear H';(try clear c2);(try clear c2b0);(try clear c2b1);(try clear p2)
  obtain ⟨x10_1,rfl,HA,HK1,HB⟩:=hrel
  cases gk with
 |zero => exact absurd HA.out (by simp [label_Valid.l0])
 |succ k1 =>
   have H:=HA.out
   clear HA
   simp only [label_Valid.l0] at H
   by_cases c3 : x10_1 < (l0.length : Int)
   rotate_left
   ·rw [if_neg c3] at H
    have c3b0 : decide (x10_1 < (l0.length : Int)) = false:=decide_eq_false c3
    clear c3
    obtain rfl:=Option.some.inj H
    go_wp2
    go_ret
    exact ⟨by first|rfl|(simp [errW_none,errW_some] <;> rfl)|(simp [*,errW_none,errW_some] <;> rfl),by repeat (first|(with_reducible first|exact HB.out|apply below_alloc|apply pw_below_drewN|apply below_drew1)|exact HB.out)⟩
   rw [if_pos c3] at H
   have c3b0 : decide (x10_1 < (l0.length : Int)) = true:=decide_eq_true c3
   clear c3
   by_cases c4 : 0 ≤ x10_1
   rotate_left
   ·rw [if_neg c4] at H
    exact absurd H (by simp)
   rw [if_pos c4] at H
   have c4b0 : decide (0 ≤ x10_1) = true:=decide_eq_true c4
   clear c4
   by_cases c5 : x10_1 < (l0.length : Int)
   rotate_left
   ·rw [if_neg c5] at H
    exact absurd H (by simp)
   rw [if_pos c5] at H
   have c5b0 : decide (x10_1 < (l0.length : Int)) = true:=decide_eq_true c5
   clear c5
   replace H:=Option.bind_eq_some_iff.mp H
   obtain ⟨t469,A60,H⟩:=H
   replace H : (if t469 = true then ((label_value.f ((rd_T37 l0 x10_1).f1)).bind fun t470 => (if t470 = true then (if x10_1 > 0 then (if 0 ≤ (wrap64 (x10_1 - 1)) then (if (wrap64 (x10_1 - 1)) < (l0.length : Int) then (if ((Op.bytesLess (((rd_T37 l0 (wrap64 (x10_1 - 1))).f0).toList) (((rd_T37 l0 x10_1).f0).toList)) = true) then (label_Valid.l0 k1 l0 l0 (l0.length : Int) (wrap64 (x10_1 + 1))) else (some 42)) else (none)) else (none)) else (label_Valid.l0 k1 l0 l0 (l0.length : Int) (wrap64 (x10_1 + 1)))) else (some 42))) else (some 42)) = some r:=H
   have A6:=Aside0.mk A60
   clear A60
   by_cases c7 : t469 = true
   rotate_left
   ·replace c7:=Bool.eq_false_iff.mpr c7
    subst c7
    have H1 : (some 42) = some r:=by rw [if_neg (show ¬ (false = true) by decide)] at H;exact H
    clear H;have H:=H1;clear H1
    obtain rfl:=Option.some.inj H
    have p467 : 0 ≤ (x10_1 : Int):=of_decide_eq_true (by first|(with_reducible assumption)|assumption)
    have q467 : x10_1 < (l0.length : Int):=of_decide_eq_true (by first|(with_reducible assumption)|assumption)
    obtain ⟨ad467,e467,hx467_0,hx467_1⟩:=at_T37 HR0.out x10_1 p467 q467
    cases e467
    replace hx467_0:=(HB.out.cell (World.block_lt_of_cell? w _ hx467_0)).trans hx467_0
    replace hx467_1:=(HB.out.cell (World.block_lt_of_cell? w _ hx467_1)).trans hx467_1
    replace p467:=eq_true p467
    replace q467:=eq_true q467
    try go_wp2_with (first|((with_reducible refine gate_dst (N:=4) rfl ?_);refine box_event ?hg (N:=4) ?hd (cs:=#[.string (⟨#[]⟩ : ByteArray),.string (⟨#[]⟩ : ByteArray)]) (t:=37) ?hr ?_;(case hd => rfl);(case hg => rfl);(case hr => first|(go_simp;done)|(go_simp;rfl));intro gb468 hg w39 hbox hb;have n0_:=Aside0.mk (below_step (by repeat (first|(with_reducible first|exact HB.out|apply below_alloc|apply pw_below_drewN|apply below_drew1)|exact HB.out)) hb);have n1_:=Aside0.mk (hbox);have n2_:=Aside0.mk ((by rw [hg];exact (below_size (by repeat (first|(with_reducible first|exact HB.out|apply below_alloc|apply pw_below_drewN|apply below_drew1)|exact HB.out))) : w.heap.size ≤ gb468));have n3_:=Aside0.mk ((by rw [hg];exact (below_size (by repeat (first|(with_reducible first|exact HB.out|apply below_alloc|apply pw_below_drewN|apply below_drew1)|exact HB.out))) : w.heap.size ≤ gb468));clear HB;have HB:=n0_;have BK468:=n1_;have GW468:=n2_;have GE468:=n3_;clear n0_ n1_ n2_ n3_;clear hb hbox hg;have hcz40_0 : w39.cell? ⟨gb468,0,none⟩ = some (.string (⟨#[]⟩ : ByteArray)):=(blk_cell BK468.out 0).trans rfl;have hcz40_1 : w39.cell? ⟨gb468,1,none⟩ = some (.string (⟨#[]⟩ : ByteArray)):=(blk_cell BK468.out 1).trans rfl;have hfz40_0:=blk_frozen BK468.out 0;have hfz40_1:=blk_frozen BK468.out 1))
    have n0_ : Aside0 (((w39.setCell ⟨gb468,0,none⟩ (.string ((rd_T37 l0 x10_1).f0))).setCell ⟨gb468,1,none⟩ (.string ((rd_T37 l0 x10_1).f1))).heap[gb468]? = some (.cells #[.string ((rd_T37 l0 x10_1).f0),.string ((rd_T37 l0 x10_1).f1)] 37 (0,0))):=⟨by (with_reducible repeat (first|refine blk_drewN ?_ _|refine blk_drew ?_|refine blk_alloc ?_ _));refine blk_put (cs:=#[.string ((rd_T37 l0 x10_1).f0),.string (⟨#[]⟩ : ByteArray)]) ?_ 1 _ rfl;(with_reducible repeat (first|refine blk_drewN ?_ _|refine blk_drew ?_|refine blk_alloc ?_ _));refine blk_put (cs:=#[.string (⟨#[]⟩ : ByteArray),.string (⟨#[]⟩ : ByteArray)]) ?_ 0 _ rfl;(with_reducible repeat (first|refine blk_drewN ?_ _|refine blk_drew ?_|refine blk_alloc ?_ _));exact BK468.out⟩
    have n1_ : Aside0 (Below w.heap.size w ((w39.setCell ⟨gb468,0,none⟩ (.string ((rd_T37 l0 x10_1).f0))).setCell ⟨gb468,1,none⟩ (.string ((rd_T37 l0 x10_1).f1)))):=⟨by repeat (first|(with_reducible first|exact HB.out|apply below_alloc|apply pw_below_drewN|apply below_drew1|refine below_set ?_ GE468.out)|exact HB.out)⟩
    (try clear BK468);(try clear HB)
    generalize ((w39.setCell ⟨gb468,0,none⟩ (.string ((rd_T37 l0 x10_1).f0))).setCell ⟨gb468,1,none⟩ (.string ((rd_T37 l0 x10_1).f1))) = w41 at n0_ n1_ ⊢
    have BK468:=n0_;have HB:=n1_;clear n0_ n1_
    have n0_:=Aside0.mk (blk_drew BK468.out)
    have n1_:=Aside0.mk (below_drew1 HB.out)
    clear BK468;clear HB;have BK468:=n0_;have HB:=n1_;clear n0_ n1_
    refine start_ (n:=25) (S:=fun w' => w'.cell? ⟨gb468,0,none⟩ = some (.string ((rd_T37 l0 x10_1).f0)) ∧ w'.cell? ⟨gb468,1,none⟩ = some (.string ((rd_T37 l0 x10_1).f1))) (ds:=[]) (bl 0 25) (by kernel_rfl) rfl rfl ⟨(blk_cell BK468.out 0).trans rfl,(blk_cell BK468.out 1).trans rfl⟩ (fun hHeld => ?_);refine with_tabW label_Valid.tab6 label_Valid.bits6 (fun HT_ HW_ => ?_)
    generalize w41.drew = w42 at BK468 HB hHeld ⊢
    refine pure_ (i:=0) (N:=some 15) (v:=?_) (a':=?_) (bl 1 24) rfl rfl (any_of HT_.out (by kernel_rfl)) (fun _ _ _ h => h) (Or.inl ⟨by rfl,?_⟩) ?_ ?_
    rotate_left;·intro w';go_simp;with_reducible rfl
    rotate_left;·simp only [pu_];rfl
    refine take_ (i:=1) (N:=some 16) (v:=?_) (a':=?_) (bl 2 23) rfl rfl (take_ofW HT_.out HW_.out (by kernel_rfl)) (fun _ _ _ h => h) (Or.inl ⟨by rfl,?_⟩) hHeld ?_ ?_
    rotate_left
    ·rintro w' ⟨s0,s1⟩
     go_simp
     with_reducible rfl
    rotate_left
    ·simp only [pu_]
     rfl
    refine one_ (i:=2) (N:=some 17) (bl 3 22) rfl rfl (one_of HT_.out (by kernel_rfl)) (by decide) (fun K hK => ?_)
    refine goes_ Tryd.func29 (by kernel_rfl) rfl #[.string ((rd_T37 l0 x10_1).f0)] (by rfl) rfl rfl (by (try simp only [List.map_toArray,List.map_cons,List.map_nil]);first|done|rfl|(simp only [List.length_drop,List.length_take];rfl)) ?_
    with_reducible refine (label_Name.calls ((rd_T37 l0 x10_1).f0) false _ A6.out).mono ?_
    rintro e w43 ⟨rfl,hb⟩
    refine ⟨_,rfl,?_⟩
    have n0_:=Aside0.mk (blk_below (g:=gb468) (o:=.cells #[.string ((rd_T37 l0 x10_1).f0),.string ((rd_T37 l0 x10_1).f1)] 37 (0,0)) (by (with_reducible repeat (first|refine blk_drewN ?_ _|refine blk_drew ?_|refine blk_alloc ?_ _));exact BK468.out) hb)
    have n1_:=Aside0.mk (below_step (by repeat (first|(with_reducible first|exact HB.out|apply below_alloc|apply pw_below_drewN|apply below_drew1|refine below_set ?_ GE468.out)|exact HB.out)) hb)
    clear BK468;clear HB;have BK468:=n0_;have HB:=n1_;clear n0_ n1_;(try clear hb);(try clear hb2);(try clear hk);(try clear hi)
    refine hK.out _ _ ⟨(blk_cell BK468.out 0).trans rfl,(blk_cell BK468.out 1).trans rfl⟩ (fun hHeld => ?_)
    clear hK K
    refine norm_ (a':=?_) ?_ ?_
    rotate_left
    ·show Act.put _ (some 17) _ = _
     simp only [pu_]
     rfl
    refine pure_ (i:=3) (N:=some 18) (v:=?_) (a':=?_) (bl 4 21) rfl rfl (any_of HT_.out (by kernel_rfl)) (fun _ _ _ h => h) (Or.inl ⟨by rfl,?_⟩) ?_ ?_
    rotate_left;·intro w';go_simp;with_reducible rfl
    rotate_left;·simp only [pu_];rfl
    refine pure_ (i:=4) (N:=some 19) (v:=?_) (a':=?_) (bl 5 20) rfl rfl (any_of HT_.out (by kernel_rfl)) (fun _ _ _ h => h) (Or.inl ⟨by rfl,?_⟩) ?_ ?_
    rotate_left;·intro w';go_simp;with_reducible rfl
    rotate_left;·simp only [pu_];rfl
    refine pure_ (i:=5) (N:=some 20) (v:=undef) (a':=?_) (bl 6 19) rfl rfl (any_of HT_.out (by kernel_rfl)) (fun _ _ _ h => h) (Or.inr ⟨by rfl,rfl⟩) ?_ ?_
    rotate_left
    ·simp only [pu_]
     rfl
    refine pure_ (i:=6) (N:=some 21) (v:=undef) (a':=?_) (bl 7 18) rfl rfl (any_of HT_.out (by kernel_rfl)) (fun _ _ _ h => h) (Or.inr ⟨by rfl,rfl⟩) ?_ ?_
    rotate_left
    ·simp only [pu_]
     rfl
    refine pure_ (i:=7) (N:=some 22) (v:=undef) (a':=?_) (bl 8 17) rfl rfl (any_of HT_.out (by kernel_rfl)) (fun _ _ _ h => h) (Or.inr ⟨by rfl,rfl⟩) ?_ ?_
    rotate_left
    ·simp only [pu_]
     rfl
    refine pure_ (i:=8) (N:=some 23) (v:=undef) (a':=?_) (bl 9 16) rfl rfl (any_of HT_.out (by kernel_rfl)) (fun _ _ _ h => h) (Or.inr ⟨by rfl,rfl⟩) ?_ ?_
    rotate_left
    ·simp only [pu_]
     rfl
    refine pure_ (i:=9) (N:=some 24) (v:=?_) (a':=?_) (bl 10 15) rfl rfl (any_of HT_.out (by kernel_rfl)) (fun _ _ _ h => h) (Or.inl ⟨by rfl,?_⟩) ?_ ?_
    rotate_left;·intro w';go_simp;with_reducible rfl
    rotate_left;·simp only [pu_];rfl
    refine pure_ (i:=10) (N:=some 25) (v:=?_) (a':=?_) (bl 11 14) rfl rfl (any_of HT_.out (by kernel_rfl)) (fun _ _ _ h => h) (Or.inl ⟨by rfl,?_⟩) ?_ ?_
    rotate_left;·intro w';go_simp;with_reducible rfl
    rotate_left;·simp only [pu_];rfl
    refine pure_ (i:=11) (N:=some 26) (v:=undef) (a':=?_) (bl 12 13) rfl rfl (any_of HT_.out (by kernel_rfl)) (fun _ _ _ h => h) (Or.inr ⟨by rfl,rfl⟩) ?_ ?_
    rotate_left
    ·simp only [pu_]
     rfl
    refine pure_ (i:=12) (N:=some 27) (v:=undef) (a':=?_) (bl 13 12) rfl rfl (any_of HT_.out (by kernel_rfl)) (fun _ _ _ h => h) (Or.inr ⟨by rfl,rfl⟩) ?_ ?_
    rotate_left
    ·simp only [pu_]
     rfl
    refine pure_ (i:=13) (N:=some 28) (v:=undef) (a':=?_) (bl 14 11) rfl rfl (any_of HT_.out (by kernel_rfl)) (fun _ _ _ h => h) (Or.inr ⟨by rfl,rfl⟩) ?_ ?_
    rotate_left
    ·simp only [pu_]
     rfl
    refine pure_ (i:=14) (N:=some 29) (v:=undef) (a':=?_) (bl 15 10) rfl rfl (any_of HT_.out (by kernel_rfl)) (fun _ _ _ h => h) (Or.inr ⟨by rfl,rfl⟩) ?_ ?_
    rotate_left
    ·simp only [pu_]
     rfl
    refine pure_ (i:=15) (N:=some 30) (v:=undef) (a':=?_) (bl 16 9) rfl rfl (any_of HT_.out (by kernel_rfl)) (fun _ _ _ h => h) (Or.inr ⟨by rfl,rfl⟩) ?_ ?_
    rotate_left
    ·simp only [pu_]
     rfl
    refine pure_ (i:=16) (N:=some 31) (v:=undef) (a':=?_) (bl 17 8) rfl rfl (any_of HT_.out (by kernel_rfl)) (fun _ _ _ h => h) (Or.inr ⟨by rfl,rfl⟩) ?_ ?_
    rotate_left
    ·simp only [pu_]
     rfl
    refine pure_ (i:=17) (N:=some 32) (v:=undef) (a':=?_) (bl 18 7) rfl rfl (any_of HT_.out (by kernel_rfl)) (fun _ _ _ h => h) (Or.inr ⟨by rfl,rfl⟩) ?_ ?_
    rotate_left
    ·simp only [pu_]
     rfl
    refine pure_ (i:=18) (N:=some 33) (v:=undef) (a':=?_) (bl 19 6) rfl rfl (any_of HT_.out (by kernel_rfl)) (fun _ _ _ h => h) (Or.inr ⟨by rfl,rfl⟩) ?_ ?_
    rotate_left
    ·simp only [pu_]
     rfl
    refine pure_ (i:=19) (N:=some 34) (v:=undef) (a':=?_) (bl 20 5) rfl rfl (any_of HT_.out (by kernel_rfl)) (fun _ _ _ h => h) (Or.inr ⟨by rfl,rfl⟩) ?_ ?_
    rotate_left
    ·simp only [pu_]
     rfl
    refine pure_ (i:=20) (N:=some 35) (v:=undef) (a':=?_) (bl 21 4) rfl rfl (any_of HT_.out (by kernel_rfl)) (fun _ _ _ h => h) (Or.inr ⟨by rfl,rfl⟩) ?_ ?_
    rotate_left
    ·simp only [pu_]
     rfl
    refine pure_ (i:=21) (N:=some 36) (v:=undef) (a':=?_) (bl 22 3) rfl rfl (any_of HT_.out (by kernel_rfl)) (fun _ _ _ h => h) (Or.inr ⟨by rfl,rfl⟩) ?_ ?_
    rotate_left
    ·simp only [pu_]
     rfl
    refine pure_ (i:=22) (N:=some 37) (v:=undef) (a':=?_) (bl 23 2) rfl rfl (any_of HT_.out (by kernel_rfl)) (fun _ _ _ h => h) (Or.inr ⟨by rfl,rfl⟩) ?_ ?_
    rotate_left
    ·simp only [pu_]
     rfl
    refine pure_ (i:=23) (N:=some 38) (v:=undef) (a':=?_) (bl 24 1) rfl rfl (any_of HT_.out (by kernel_rfl)) (fun _ _ _ h => h) (Or.inr ⟨by rfl,rfl⟩) ?_ ?_
    rotate_left
    ·simp only [pu_]
     rfl
    refine pure_ (i:=24) (N:=some 39) (v:=?_) (a':=?_) (bl 25 0) rfl rfl (any_of HT_.out (by kernel_rfl)) (fun _ _ _ h => h) (Or.inl ⟨by rfl,?_⟩) ?_ ?_
    rotate_left;·intro w';go_simp;with_reducible rfl
    rotate_left;·simp only [pu_];rfl
    refine done_ (done_of HT_.out (by kernel_rfl)) ?_
    try go_wp2
    go_ret
    exact ⟨by first|rfl|(simp [errW_none,errW_some] <;> rfl)|(simp [*,errW_none,errW_some] <;> rfl),by repeat (first|(with_reducible first|exact HB.out|apply below_alloc|apply pw_below_drewN|apply below_drew1|refine below_set ?_ GE468.out)|exact HB.out)⟩
   subst c7
   have H1 : ((label_value.f ((rd_T37 l0 x10_1).f1)).bind fun t470 => (if t470 = true then (if x10_1 > 0 then (if 0 ≤ (wrap64 (x10_1 - 1)) then (if (wrap64 (x10_1 - 1)) < (l0.length : Int) then (if ((Op.bytesLess (((rd_T37 l0 (wrap64 (x10_1 - 1))).f0).toList) (((rd_T37 l0 x10_1).f0).toList)) = true) then (label_Valid.l0 k1 l0 l0 (l0.length : Int) (wrap64 (x10_1 + 1))) else (some 42)) else (none)) else (none)) else (label_Valid.l0 k1 l0 l0 (l0.length : Int) (wrap64 (x10_1 + 1)))) else (some 42))) = some r:=by rw [if_pos rfl] at H;exact H
   clear H;have H:=H1;clear H1
   replace H:=Option.bind_eq_some_iff.mp H
   obtain ⟨t470,A80,H⟩:=H
   replace H : (if t470 = true then (if x10_1 > 0 then (if 0 ≤ (wrap64 (x10_1 - 1)) then (if (wrap64 (x10_1 - 1)) < (l0.length : Int) then (if ((Op.bytesLess (((rd_T37 l0 (wrap64 (x10_1 - 1))).f0).toList) (((rd_T37 l0 x10_1).f0).toList)) = true) then (label_Valid.l0 k1 l0 l0 (l0.length : Int) (wrap64 (x10_1 + 1))) else (some 42)) else (none)) else (none)) else (label_Valid.l0 k1 l0 l0 (l0.length : Int) (wrap64 (x10_1 + 1)))) else (some 42)) = some r:=H
   have A8:=Aside0.mk A80
   clear A80
   by_cases c9 : t470 = true
   rotate_left
   ·replace c9:=Bool.eq_false_iff.mpr c9
    subst c9
    have H1 : (some 42) = some r:=by rw [if_neg (show ¬ (false = true) by decide)] at H;exact H
    clear H;have H:=H1;clear H1
    obtain rfl:=Option.some.inj H
    have p467 : 0 ≤ (x10_1 : Int):=of_decide_eq_true (by first|(with_reducible assumption)|assumption)
    have q467 : x10_1 < (l0.length : Int):=of_decide_eq_true (by first|(with_reducible assumption)|assumption)
    obtain ⟨ad467,e467,hx467_0,hx467_1⟩:=at_T37 HR0.out x10_1 p467 q467
    cases e467
    replace hx467_0:=(HB.out.cell (World.block_lt_of_cell? w _ hx467_0)).trans hx467_0
    replace hx467_1:=(HB.out.cell (World.block_lt_of_cell? w _ hx467_1)).trans hx467_1
    replace p467:=eq_true p467
    replace q467:=eq_true q467
    try go_wp2_with (first|((with_reducible refine gate_dst (N:=4) rfl ?_);refine box_event ?hg (N:=4) ?hd (cs:=#[.string (⟨#[]⟩ : ByteArray),.string (⟨#[]⟩ : ByteArray)]) (t:=37) ?hr ?_;(case hd => rfl);(case hg => rfl);(case hr => first|(go_simp;done)|(go_simp;rfl));intro gb468 hg w33 hbox hb;have n0_:=Aside0.mk (below_step (by repeat (first|(with_reducible first|exact HB.out|apply below_alloc|apply pw_below_drewN|apply below_drew1)|exact HB.out)) hb);have n1_:=Aside0.mk (hbox);have n2_:=Aside0.mk ((by rw [hg];exact (below_size (by repeat (first|(with_reducible first|exact HB.out|apply below_alloc|apply pw_below_drewN|apply below_drew1)|exact HB.out))) : w.heap.size ≤ gb468));have n3_:=Aside0.mk ((by rw [hg];exact (below_size (by repeat (first|(with_reducible first|exact HB.out|apply below_alloc|apply pw_below_drewN|apply below_drew1)|exact HB.out))) : w.heap.size ≤ gb468));clear HB;have HB:=n0_;have BK468:=n1_;have GW468:=n2_;have GE468:=n3_;clear n0_ n1_ n2_ n3_;clear hb hbox hg;have hcz34_0 : w33.cell? ⟨gb468,0,none⟩ = some (.string (⟨#[]⟩ : ByteArray)):=(blk_cell BK468.out 0).trans rfl;have hcz34_1 : w33.cell? ⟨gb468,1,none⟩ = some (.string (⟨#[]⟩ : ByteArray)):=(blk_cell BK468.out 1).trans rfl;have hfz34_0:=blk_frozen BK468.out 0;have hfz34_1:=blk_frozen BK468.out 1))
    have n0_ : Aside0 (((w33.setCell ⟨gb468,0,none⟩ (.string ((rd_T37 l0 x10_1).f0))).setCell ⟨gb468,1,none⟩ (.string ((rd_T37 l0 x10_1).f1))).heap[gb468]? = some (.cells #[.string ((rd_T37 l0 x10_1).f0),.string ((rd_T37 l0 x10_1).f1)] 37 (0,0))):=⟨by (with_reducible repeat (first|refine blk_drewN ?_ _|refine blk_drew ?_|refine blk_alloc ?_ _));refine blk_put (cs:=#[.string ((rd_T37 l0 x10_1).f0),.string (⟨#[]⟩ : ByteArray)]) ?_ 1 _ rfl;(with_reducible repeat (first|refine blk_drewN ?_ _|refine blk_drew ?_|refine blk_alloc ?_ _));refine blk_put (cs:=#[.string (⟨#[]⟩ : ByteArray),.string (⟨#[]⟩ : ByteArray)]) ?_ 0 _ rfl;(with_reducible repeat (first|refine blk_drewN ?_ _|refine blk_drew ?_|refine blk_alloc ?_ _));exact BK468.out⟩
    have n1_ : Aside0 (Below w.heap.size w ((w33.setCell ⟨gb468,0,none⟩ (.string ((rd_T37 l0 x10_1).f0))).setCell ⟨gb468,1,none⟩ (.string ((rd_T37 l0 x10_1).f1)))):=⟨by repeat (first|(with_reducible first|exact HB.out|apply below_alloc|apply pw_below_drewN|apply below_drew1|refine below_set ?_ GE468.out)|exact HB.out)⟩
    (try clear BK468);(try clear HB)
    generalize ((w33.setCell ⟨gb468,0,none⟩ (.string ((rd_T37 l0 x10_1).f0))).setCell ⟨gb468,1,none⟩ (.string ((rd_T37 l0 x10_1).f1))) = w35 at n0_ n1_ ⊢
    have BK468:=n0_;have HB:=n1_;clear n0_ n1_
    have n0_:=Aside0.mk (blk_drew BK468.out)
    have n1_:=Aside0.mk (below_drew1 HB.out)
    clear BK468;clear HB;have BK468:=n0_;have HB:=n1_;clear n0_ n1_
    refine start_ (n:=25) (S:=fun w' => w'.cell? ⟨gb468,0,none⟩ = some (.string ((rd_T37 l0 x10_1).f0)) ∧ w'.cell? ⟨gb468,1,none⟩ = some (.string ((rd_T37 l0 x10_1).f1))) (ds:=[]) (bl 0 25) (by kernel_rfl) rfl rfl ⟨(blk_cell BK468.out 0).trans rfl,(blk_cell BK468.out 1).trans rfl⟩ (fun hHeld => ?_);refine with_tabW label_Valid.tab6 label_Valid.bits6 (fun HT_ HW_ => ?_)
    generalize w35.drew = w36 at BK468 HB hHeld ⊢
    refine pure_ (i:=0) (N:=some 15) (v:=?_) (a':=?_) (bl 1 24) rfl rfl (any_of HT_.out (by kernel_rfl)) (fun _ _ _ h => h) (Or.inl ⟨by rfl,?_⟩) ?_ ?_
    rotate_left;·intro w';go_simp;with_reducible rfl
    rotate_left;·simp only [pu_];rfl
    refine take_ (i:=1) (N:=some 16) (v:=?_) (a':=?_) (bl 2 23) rfl rfl (take_ofW HT_.out HW_.out (by kernel_rfl)) (fun _ _ _ h => h) (Or.inl ⟨by rfl,?_⟩) hHeld ?_ ?_
    rotate_left
    ·rintro w' ⟨s0,s1⟩
     go_simp
     with_reducible rfl
    rotate_left
    ·simp only [pu_]
     rfl
    refine one_ (i:=2) (N:=some 17) (bl 3 22) rfl rfl (one_of HT_.out (by kernel_rfl)) (by decide) (fun K hK => ?_)
    refine goes_ Tryd.func29 (by kernel_rfl) rfl #[.string ((rd_T37 l0 x10_1).f0)] (by rfl) rfl rfl (by (try simp only [List.map_toArray,List.map_cons,List.map_nil]);first|done|rfl|(simp only [List.length_drop,List.length_take];rfl)) ?_
    with_reducible refine (label_Name.calls ((rd_T37 l0 x10_1).f0) true _ A6.out).mono ?_
    rintro e w37 ⟨rfl,hb⟩
    refine ⟨_,rfl,?_⟩
    have n0_:=Aside0.mk (blk_below (g:=gb468) (o:=.cells #[.string ((rd_T37 l0 x10_1).f0),.string ((rd_T37 l0 x10_1).f1)] 37 (0,0)) (by (with_reducible repeat (first|refine blk_drewN ?_ _|refine blk_drew ?_|refine blk_alloc ?_ _));exact BK468.out) hb)
    have n1_:=Aside0.mk (below_step (by repeat (first|(with_reducible first|exact HB.out|apply below_alloc|apply pw_below_drewN|apply below_drew1|refine below_set ?_ GE468.out)|exact HB.out)) hb)
    clear BK468;clear HB;have BK468:=n0_;have HB:=n1_;clear n0_ n1_;(try clear hb);(try clear hb2);(try clear hk);(try clear hi)
    refine hK.out _ _ ⟨(blk_cell BK468.out 0).trans rfl,(blk_cell BK468.out 1).trans rfl⟩ (fun hHeld => ?_)
    clear hK K
    refine norm_ (a':=?_) ?_ ?_
    rotate_left
    ·show Act.put _ (some 17) _ = _
     simp only [pu_]
     rfl
    refine pure_ (i:=3) (N:=some 18) (v:=?_) (a':=?_) (bl 4 21) rfl rfl (any_of HT_.out (by kernel_rfl)) (fun _ _ _ h => h) (Or.inl ⟨by rfl,?_⟩) ?_ ?_
    rotate_left;·intro w';go_simp;with_reducible rfl
    rotate_left;·simp only [pu_];rfl
    refine pure_ (i:=4) (N:=some 19) (v:=?_) (a':=?_) (bl 5 20) rfl rfl (any_of HT_.out (by kernel_rfl)) (fun _ _ _ h => h) (Or.inl ⟨by rfl,?_⟩) ?_ ?_
    rotate_left;·intro w';go_simp;with_reducible rfl
    rotate_left;·simp only [pu_];rfl
    refine pure_ (i:=5) (N:=some 20) (v:=?_) (a':=?_) (bl 6 19) rfl rfl (any_of HT_.out (by kernel_rfl)) (fun _ _ _ h => h) (Or.inl ⟨by rfl,?_⟩) ?_ ?_
    rotate_left;·intro w';go_simp;with_reducible rfl
    rotate_left;·simp only [pu_];rfl
    refine take_ (i:=6) (N:=some 21) (v:=?_) (a':=?_) (bl 7 18) rfl rfl (take_ofW HT_.out HW_.out (by kernel_rfl)) (fun _ _ _ h => h) (Or.inl ⟨by rfl,?_⟩) hHeld ?_ ?_
    rotate_left
    ·rintro w' ⟨s0,s1⟩
     go_simp
     with_reducible rfl
    rotate_left
    ·simp only [pu_]
     rfl
    refine one_ (i:=7) (N:=some 22) (bl 8 17) rfl rfl (one_of HT_.out (by kernel_rfl)) (by decide) (fun K hK => ?_)
    refine goes_ Tryd.func65 (by kernel_rfl) rfl #[.string ((rd_T37 l0 x10_1).f1)] (by rfl) rfl rfl (by (try simp only [List.map_toArray,List.map_cons,List.map_nil]);first|done|rfl|(simp only [List.length_drop,List.length_take];rfl)) ?_
    with_reducible refine (label_value.calls ((rd_T37 l0 x10_1).f1) false _ A8.out).mono ?_
    rintro e w38 ⟨rfl,hb⟩
    refine ⟨_,rfl,?_⟩
    have n0_:=Aside0.mk (blk_below (g:=gb468) (o:=.cells #[.string ((rd_T37 l0 x10_1).f0),.string ((rd_T37 l0 x10_1).f1)] 37 (0,0)) (by (with_reducible repeat (first|refine blk_drewN ?_ _|refine blk_drew ?_|refine blk_alloc ?_ _));exact BK468.out) hb)
    have n1_:=Aside0.mk (below_step (by repeat (first|(with_reducible first|exact HB.out|apply below_alloc|apply pw_below_drewN|apply below_drew1|refine below_set ?_ GE468.out)|exact HB.out)) hb)
    clear BK468;clear HB;have BK468:=n0_;have HB:=n1_;clear n0_ n1_;(try clear hb);(try clear hb2);(try clear hk);(try clear hi)
    refine hK.out _ _ ⟨(blk_cell BK468.out 0).trans rfl,(blk_cell BK468.out 1).trans rfl⟩ (fun hHeld => ?_)
    clear hK K
    refine norm_ (a':=?_) ?_ ?_
    rotate_left
    ·show Act.put _ (some 22) _ = _
     simp only [pu_]
     rfl
    refine pure_ (i:=8) (N:=some 23) (v:=?_) (a':=?_) (bl 9 16) rfl rfl (any_of HT_.out (by kernel_rfl)) (fun _ _ _ h => h) (Or.inl ⟨by rfl,?_⟩) ?_ ?_
    rotate_left;·intro w';go_simp;with_reducible rfl
    rotate_left;·simp only [pu_];rfl
    refine pure_ (i:=9) (N:=some 24) (v:=?_) (a':=?_) (bl 10 15) rfl rfl (any_of HT_.out (by kernel_rfl)) (fun _ _ _ h => h) (Or.inl ⟨by rfl,?_⟩) ?_ ?_
    rotate_left;·intro w';go_simp;with_reducible rfl
    rotate_left;·simp only [pu_];rfl
    refine pure_ (i:=10) (N:=some 25) (v:=?_) (a':=?_) (bl 11 14) rfl rfl (any_of HT_.out (by kernel_rfl)) (fun _ _ _ h => h) (Or.inl ⟨by rfl,?_⟩) ?_ ?_
    rotate_left;·intro w';go_simp;with_reducible rfl
    rotate_left;·simp only [pu_];rfl
    refine pure_ (i:=11) (N:=some 26) (v:=undef) (a':=?_) (bl 12 13) rfl rfl (any_of HT_.out (by kernel_rfl)) (fun _ _ _ h => h) (Or.inr ⟨by rfl,rfl⟩) ?_ ?_
    rotate_left
    ·simp only [pu_]
     rfl
    refine pure_ (i:=12) (N:=some 27) (v:=undef) (a':=?_) (bl 13 12) rfl rfl (any_of HT_.out (by kernel_rfl)) (fun _ _ _ h => h) (Or.inr ⟨by rfl,rfl⟩) ?_ ?_
    rotate_left
    ·simp only [pu_]
     rfl
    refine pure_ (i:=13) (N:=some 28) (v:=undef) (a':=?_) (bl 14 11) rfl rfl (any_of HT_.out (by kernel_rfl)) (fun _ _ _ h => h) (Or.inr ⟨by rfl,rfl⟩) ?_ ?_
    rotate_left
    ·simp only [pu_]
     rfl
    refine pure_ (i:=14) (N:=some 29) (v:=undef) (a':=?_) (bl 15 10) rfl rfl (any_of HT_.out (by kernel_rfl)) (fun _ _ _ h => h) (Or.inr ⟨by rfl,rfl⟩) ?_ ?_
    rotate_left
    ·simp only [pu_]
     rfl
    refine pure_ (i:=15) (N:=some 30) (v:=undef) (a':=?_) (bl 16 9) rfl rfl (any_of HT_.out (by kernel_rfl)) (fun _ _ _ h => h) (Or.inr ⟨by rfl,rfl⟩) ?_ ?_
    rotate_left
    ·simp only [pu_]
     rfl
    refine pure_ (i:=16) (N:=some 31) (v:=undef) (a':=?_) (bl 17 8) rfl rfl (any_of HT_.out (by kernel_rfl)) (fun _ _ _ h => h) (Or.inr ⟨by rfl,rfl⟩) ?_ ?_
    rotate_left
    ·simp only [pu_]
     rfl
    refine pure_ (i:=17) (N:=some 32) (v:=undef) (a':=?_) (bl 18 7) rfl rfl (any_of HT_.out (by kernel_rfl)) (fun _ _ _ h => h) (Or.inr ⟨by rfl,rfl⟩) ?_ ?_
    rotate_left
    ·simp only [pu_]
     rfl
    refine pure_ (i:=18) (N:=some 33) (v:=undef) (a':=?_) (bl 19 6) rfl rfl (any_of HT_.out (by kernel_rfl)) (fun _ _ _ h => h) (Or.inr ⟨by rfl,rfl⟩) ?_ ?_
    rotate_left
    ·simp only [pu_]
     rfl
    refine pure_ (i:=19) (N:=some 34) (v:=undef) (a':=?_) (bl 20 5) rfl rfl (any_of HT_.out (by kernel_rfl)) (fun _ _ _ h => h) (Or.inr ⟨by rfl,rfl⟩) ?_ ?_
    rotate_left
    ·simp only [pu_]
     rfl
    refine pure_ (i:=20) (N:=some 35) (v:=undef) (a':=?_) (bl 21 4) rfl rfl (any_of HT_.out (by kernel_rfl)) (fun _ _ _ h => h) (Or.inr ⟨by rfl,rfl⟩) ?_ ?_
    rotate_left
    ·simp only [pu_]
     rfl
    refine pure_ (i:=21) (N:=some 36) (v:=undef) (a':=?_) (bl 22 3) rfl rfl (any_of HT_.out (by kernel_rfl)) (fun _ _ _ h => h) (Or.inr ⟨by rfl,rfl⟩) ?_ ?_
    rotate_left
    ·simp only [pu_]
     rfl
    refine pure_ (i:=22) (N:=some 37) (v:=undef) (a':=?_) (bl 23 2) rfl rfl (any_of HT_.out (by kernel_rfl)) (fun _ _ _ h => h) (Or.inr ⟨by rfl,rfl⟩) ?_ ?_
    rotate_left
    ·simp only [pu_]
     rfl
    refine pure_ (i:=23) (N:=some 38) (v:=undef) (a':=?_) (bl 24 1) rfl rfl (any_of HT_.out (by kernel_rfl)) (fun _ _ _ h => h) (Or.inr ⟨by rfl,rfl⟩) ?_ ?_
    rotate_left
    ·simp only [pu_]
     rfl
    refine pure_ (i:=24) (N:=some 39) (v:=?_) (a':=?_) (bl 25 0) rfl rfl (any_of HT_.out (by kernel_rfl)) (fun _ _ _ h => h) (Or.inl ⟨by rfl,?_⟩) ?_ ?_
    rotate_left;·intro w';go_simp;with_reducible rfl
    rotate_left;·simp only [pu_];rfl
    refine done_ (done_of HT_.out (by kernel_rfl)) ?_
    try go_wp2
    go_ret
    exact ⟨by first|rfl|(simp [errW_none,errW_some] <;> rfl)|(simp [*,errW_none,errW_some] <;> rfl),by repeat (first|(with_reducible first|exact HB.out|apply below_alloc|apply pw_below_drewN|apply below_drew1|refine below_set ?_ GE468.out)|exact HB.out)⟩
   subst c9
   have H1 : (if x10_1 > 0 then (if 0 ≤ (wrap64 (x10_1 - 1)) then (if (wrap64 (x10_1 - 1)) < (l0.length : Int) then (if ((Op.bytesLess (((rd_T37 l0 (wrap64 (x10_1 - 1))).f0).toList) (((rd_T37 l0 x10_1).f0).toList)) = true) then (label_Valid.l0 k1 l0 l0 (l0.length : Int) (wrap64 (x10_1 + 1))) else (some 42)) else (none)) else (none)) else (label_Valid.l0 k1 l0 l0 (l0.length : Int) (wrap64 (x10_1 + 1)))) = some r:=by rw [if_pos rfl] at H;exact H
   clear H;have H:=H1;clear H1
   by_cases c10 : x10_1 > 0
   rotate_left
   ·rw [if_neg c10] at H
    have c10b0 : decide (0 < x10_1) = false:=decide_eq_false c10
    clear c10
    have H':=Aside0.mk H
    clear H
    have p467 : 0 ≤ (x10_1 : Int):=of_decide_eq_true (by first|(with_reducible assumption)|assumption)
    have q467 : x10_1 < (l0.length : Int):=of_decide_eq_true (by first|(with_reducible assumption)|assumption)
    obtain ⟨ad467,e467,hx467_0,hx467_1⟩:=at_T37 HR0.out x10_1 p467 q467
    cases e467
    replace hx467_0:=(HB.out.cell (World.block_lt_of_cell? w _ hx467_0)).trans hx467_0
    replace hx467_1:=(HB.out.cell (World.block_lt_of_cell? w _ hx467_1)).trans hx467_1
    replace p467:=eq_true p467
    replace q467:=eq_true q467
    try go_wp2_with (first|((with_reducible refine gate_dst (N:=4) rfl ?_);refine box_event ?hg (N:=4) ?hd (cs:=#[.string (⟨#[]⟩ : ByteArray),.string (⟨#[]⟩ : ByteArray)]) (t:=37) ?hr ?_;(case hd => rfl);(case hg => rfl);(case hr => first|(go_simp;done)|(go_simp;rfl));intro gb468 hg w27 hbox hb;have n0_:=Aside0.mk (below_step (by repeat (first|(with_reducible first|exact HB.out|apply below_alloc|apply pw_below_drewN|apply below_drew1)|exact HB.out)) hb);have n1_:=Aside0.mk (hbox);have n2_:=Aside0.mk ((by rw [hg];exact (below_size (by repeat (first|(with_reducible first|exact HB.out|apply below_alloc|apply pw_below_drewN|apply below_drew1)|exact HB.out))) : w.heap.size ≤ gb468));have n3_:=Aside0.mk ((by rw [hg];exact (below_size (by repeat (first|(with_reducible first|exact HB.out|apply below_alloc|apply pw_below_drewN|apply below_drew1)|exact HB.out))) : w.heap.size ≤ gb468));clear HB;have HB:=n0_;have BK468:=n1_;have GW468:=n2_;have GE468:=n3_;clear n0_ n1_ n2_ n3_;clear hb hbox hg;have hcz28_0 : w27.cell? ⟨gb468,0,none⟩ = some (.string (⟨#[]⟩ : ByteArray)):=(blk_cell BK468.out 0).trans rfl;have hcz28_1 : w27.cell? ⟨gb468,1,none⟩ = some (.string (⟨#[]⟩ : ByteArray)):=(blk_cell BK468.out 1).trans rfl;have hfz28_0:=blk_frozen BK468.out 0;have hfz28_1:=blk_frozen BK468.out 1))
    have n0_ : Aside0 (((w27.setCell ⟨gb468,0,none⟩ (.string ((rd_T37 l0 x10_1).f0))).setCell ⟨gb468,1,none⟩ (.string ((rd_T37 l0 x10_1).f1))).heap[gb468]? = some (.cells #[.string ((rd_T37 l0 x10_1).f0),.string ((rd_T37 l0 x10_1).f1)] 37 (0,0))):=⟨by (with_reducible repeat (first|refine blk_drewN ?_ _|refine blk_drew ?_|refine blk_alloc ?_ _));refine blk_put (cs:=#[.string ((rd_T37 l0 x10_1).f0),.string (⟨#[]⟩ : ByteArray)]) ?_ 1 _ rfl;(with_reducible repeat (first|refine blk_drewN ?_ _|refine blk_drew ?_|refine blk_alloc ?_ _));refine blk_put (cs:=#[.string (⟨#[]⟩ : ByteArray),.string (⟨#[]⟩ : ByteArray)]) ?_ 0 _ rfl;(with_reducible repeat (first|refine blk_drewN ?_ _|refine blk_drew ?_|refine blk_alloc ?_ _));exact BK468.out⟩
    have n1_ : Aside0 (Below w.heap.size w ((w27.setCell ⟨gb468,0,none⟩ (.string ((rd_T37 l0 x10_1).f0))).setCell ⟨gb468,1,none⟩ (.string ((rd_T37 l0 x10_1).f1)))):=⟨by repeat (first|(with_reducible first|exact HB.out|apply below_alloc|apply pw_below_drewN|apply below_drew1|refine below_set ?_ GE468.out)|exact HB.out)⟩
    (try clear BK468);(try clear HB)
    generalize ((w27.setCell ⟨gb468,0,none⟩ (.string ((rd_T37 l0 x10_1).f0))).setCell ⟨gb468,1,none⟩ (.string ((rd_T37 l0 x10_1).f1))) = w29 at n0_ n1_ ⊢
    have BK468:=n0_;have HB:=n1_;clear n0_ n1_
    have n0_:=Aside0.mk (blk_drew BK468.out)
    have n1_:=Aside0.mk (below_drew1 HB.out)
    clear BK468;clear HB;have BK468:=n0_;have HB:=n1_;clear n0_ n1_
    refine start_ (n:=25) (S:=fun w' => w'.cell? ⟨gb468,0,none⟩ = some (.string ((rd_T37 l0 x10_1).f0)) ∧ w'.cell? ⟨gb468,1,none⟩ = some (.string ((rd_T37 l0 x10_1).f1))) (ds:=[]) (bl 0 25) (by kernel_rfl) rfl rfl ⟨(blk_cell BK468.out 0).trans rfl,(blk_cell BK468.out 1).trans rfl⟩ (fun hHeld => ?_);refine with_tabW label_Valid.tab6 label_Valid.bits6 (fun HT_ HW_ => ?_)
    generalize w29.drew = w30 at BK468 HB hHeld ⊢
    refine pure_ (i:=0) (N:=some 15) (v:=?_) (a':=?_) (bl 1 24) rfl rfl (any_of HT_.out (by kernel_rfl)) (fun _ _ _ h => h) (Or.inl ⟨by rfl,?_⟩) ?_ ?_
    rotate_left;·intro w';go_simp;with_reducible rfl
    rotate_left;·simp only [pu_];rfl
    refine take_ (i:=1) (N:=some 16) (v:=?_) (a':=?_) (bl 2 23) rfl rfl (take_ofW HT_.out HW_.out (by kernel_rfl)) (fun _ _ _ h => h) (Or.inl ⟨by rfl,?_⟩) hHeld ?_ ?_
    rotate_left
    ·rintro w' ⟨s0,s1⟩
     go_simp
     with_reducible rfl
    rotate_left
    ·simp only [pu_]
     rfl
    refine one_ (i:=2) (N:=some 17) (bl 3 22) rfl rfl (one_of HT_.out (by kernel_rfl)) (by decide) (fun K hK => ?_)
    refine goes_ Tryd.func29 (by kernel_rfl) rfl #[.string ((rd_T37 l0 x10_1).f0)] (by rfl) rfl rfl (by (try simp only [List.map_toArray,List.map_cons,List.map_nil]);first|done|rfl|(simp only [List.length_drop,List.length_take];rfl)) ?_
    with_reducible refine (label_Name.calls ((rd_T37 l0 x10_1).f0) true _ A6.out).mono ?_
    rintro e w31 ⟨rfl,hb⟩
    refine ⟨_,rfl,?_⟩
    have n0_:=Aside0.mk (blk_below (g:=gb468) (o:=.cells #[.string ((rd_T37 l0 x10_1).f0),.string ((rd_T37 l0 x10_1).f1)] 37 (0,0)) (by (with_reducible repeat (first|refine blk_drewN ?_ _|refine blk_drew ?_|refine blk_alloc ?_ _));exact BK468.out) hb)
    have n1_:=Aside0.mk (below_step (by repeat (first|(with_reducible first|exact HB.out|apply below_alloc|apply pw_below_drewN|apply below_drew1|refine below_set ?_ GE468.out)|exact HB.out)) hb)
    clear BK468;clear HB;have BK468:=n0_;have HB:=n1_;clear n0_ n1_;(try clear hb);(try clear hb2);(try clear hk);(try clear hi)
    refine hK.out _ _ ⟨(blk_cell BK468.out 0).trans rfl,(blk_cell BK468.out 1).trans rfl⟩ (fun hHeld => ?_)
    clear hK K
    refine norm_ (a':=?_) ?_ ?_
    rotate_left
    ·show Act.put _ (some 17) _ = _
     simp only [pu_]
     rfl
    refine pure_ (i:=3) (N:=some 18) (v:=?_) (a':=?_) (bl 4 21) rfl rfl (any_of HT_.out (by kernel_rfl)) (fun _ _ _ h => h) (Or.inl ⟨by rfl,?_⟩) ?_ ?_
    rotate_left;·intro w';go_simp;with_reducible rfl
    rotate_left;·simp only [pu_];rfl
    refine pure_ (i:=4) (N:=some 19) (v:=?_) (a':=?_) (bl 5 20) rfl rfl (any_of HT_.out (by kernel_rfl)) (fun _ _ _ h => h) (Or.inl ⟨by rfl,?_⟩) ?_ ?_
    rotate_left;·intro w';go_simp;with_reducible rfl
    rotate_left;·simp only [pu_];rfl
    refine pure_ (i:=5) (N:=some 20) (v:=?_) (a':=?_) (bl 6 19) rfl rfl (any_of HT_.out (by kernel_rfl)) (fun _ _ _ h => h) (Or.inl ⟨by rfl,?_⟩) ?_ ?_
    rotate_left;·intro w';go_simp;with_reducible rfl
    rotate_left;·simp only [pu_];rfl
    refine take_ (i:=6) (N:=some 21) (v:=?_) (a':=?_) (bl 7 18) rfl rfl (take_ofW HT_.out HW_.out (by kernel_rfl)) (fun _ _ _ h => h) (Or.inl ⟨by rfl,?_⟩) hHeld ?_ ?_
    rotate_left
    ·rintro w' ⟨s0,s1⟩
     go_simp
     with_reducible rfl
    rotate_left
    ·simp only [pu_]
     rfl
    refine one_ (i:=7) (N:=some 22) (bl 8 17) rfl rfl (one_of HT_.out (by kernel_rfl)) (by decide) (fun K hK => ?_)
    refine goes_ Tryd.func65 (by kernel_rfl) rfl #[.string ((rd_T37 l0 x10_1).f1)] (by rfl) rfl rfl (by (try simp only [List.map_toArray,List.map_cons,List.map_nil]);first|done|rfl|(simp only [List.length_drop,List.length_take];rfl)) ?_
    with_reducible refine (label_value.calls ((rd_T37 l0 x10_1).f1) true _ A8.out).mono ?_
    rintro e w32 ⟨rfl,hb⟩
    refine ⟨_,rfl,?_⟩
    have n0_:=Aside0.mk (blk_below (g:=gb468) (o:=.cells #[.string ((rd_T37 l0 x10_1).f0),.string ((rd_T37 l0 x10_1).f1)] 37 (0,0)) (by (with_reducible repeat (first|refine blk_drewN ?_ _|refine blk_drew ?_|refine blk_alloc ?_ _));exact BK468.out) hb)
    have n1_:=Aside0.mk (below_step (by repeat (first|(with_reducible first|exact HB.out|apply below_alloc|apply pw_below_drewN|apply below_drew1|refine below_set ?_ GE468.out)|exact HB.out)) hb)
    clear BK468;clear HB;have BK468:=n0_;have HB:=n1_;clear n0_ n1_;(try clear hb);(try clear hb2);(try clear hk);(try clear hi)
    refine hK.out _ _ ⟨(blk_cell BK468.out 0).trans rfl,(blk_cell BK468.out 1).trans rfl⟩ (fun hHeld => ?_)
    clear hK K
    refine norm_ (a':=?_) ?_ ?_
    rotate_left
    ·show Act.put _ (some 22) _ = _
     simp only [pu_]
     rfl
    refine pure_ (i:=8) (N:=some 23) (v:=?_) (a':=?_) (bl 9 16) rfl rfl (any_of HT_.out (by kernel_rfl)) (fun _ _ _ h => h) (Or.inl ⟨by rfl,?_⟩) ?_ ?_
    rotate_left;·intro w';go_simp;with_reducible rfl
    rotate_left;·simp only [pu_];rfl
    refine pure_ (i:=9) (N:=some 24) (v:=?_) (a':=?_) (bl 10 15) rfl rfl (any_of HT_.out (by kernel_rfl)) (fun _ _ _ h => h) (Or.inl ⟨by rfl,?_⟩) ?_ ?_
    rotate_left;·intro w';go_simp;with_reducible rfl
    rotate_left;·simp only [pu_];rfl
    refine pure_ (i:=10) (N:=some 25) (v:=?_) (a':=?_) (bl 11 14) rfl rfl (any_of HT_.out (by kernel_rfl)) (fun _ _ _ h => h) (Or.inl ⟨by rfl,?_⟩) ?_ ?_
    rotate_left;·intro w';go_simp;with_reducible rfl
    rotate_left;·simp only [pu_];rfl
    refine pure_ (i:=11) (N:=some 26) (v:=?_) (a':=?_) (bl 12 13) rfl rfl (any_of HT_.out (by kernel_rfl)) (fun _ _ _ h => h) (Or.inl ⟨by rfl,?_⟩) ?_ ?_
    rotate_left;·intro w';go_simp;with_reducible rfl
    rotate_left;·simp only [pu_];rfl
    refine pure_ (i:=12) (N:=some 27) (v:=?_) (a':=?_) (bl 13 12) rfl rfl (any_of HT_.out (by kernel_rfl)) (fun _ _ _ h => h) (Or.inl ⟨by rfl,?_⟩) ?_ ?_
    rotate_left;·intro w';go_simp;with_reducible rfl
    rotate_left;·simp only [pu_];rfl
    refine pure_ (i:=13) (N:=some 28) (v:=?_) (a':=?_) (bl 14 11) rfl rfl (any_of HT_.out (by kernel_rfl)) (fun _ _ _ h => h) (Or.inl ⟨by rfl,?_⟩) ?_ ?_
    rotate_left;·intro w';go_simp;with_reducible rfl
    rotate_left;·simp only [pu_];rfl
    refine pure_ (i:=14) (N:=some 29) (v:=undef) (a':=?_) (bl 15 10) rfl rfl (any_of HT_.out (by kernel_rfl)) (fun _ _ _ h => h) (Or.inr ⟨by rfl,rfl⟩) ?_ ?_
    rotate_left
    ·simp only [pu_]
     rfl
    refine pure_ (i:=15) (N:=some 30) (v:=undef) (a':=?_) (bl 16 9) rfl rfl (any_of HT_.out (by kernel_rfl)) (fun _ _ _ h => h) (Or.inr ⟨by rfl,rfl⟩) ?_ ?_
    rotate_left
    ·simp only [pu_]
     rfl
    refine pure_ (i:=16) (N:=some 31) (v:=undef) (a':=?_) (bl 17 8) rfl rfl (any_of HT_.out (by kernel_rfl)) (fun _ _ _ h => h) (Or.inr ⟨by rfl,rfl⟩) ?_ ?_
    rotate_left
    ·simp only [pu_]
     rfl
    refine pure_ (i:=17) (N:=some 32) (v:=undef) (a':=?_) (bl 18 7) rfl rfl (any_of HT_.out (by kernel_rfl)) (fun _ _ _ h => h) (Or.inr ⟨by rfl,rfl⟩) ?_ ?_
    rotate_left
    ·simp only [pu_]
     rfl
    refine pure_ (i:=18) (N:=some 33) (v:=undef) (a':=?_) (bl 19 6) rfl rfl (any_of HT_.out (by kernel_rfl)) (fun _ _ _ h => h) (Or.inr ⟨by rfl,rfl⟩) ?_ ?_
    rotate_left
    ·simp only [pu_]
     rfl
    refine pure_ (i:=19) (N:=some 34) (v:=undef) (a':=?_) (bl 20 5) rfl rfl (any_of HT_.out (by kernel_rfl)) (fun _ _ _ h => h) (Or.inr ⟨by rfl,rfl⟩) ?_ ?_
    rotate_left
    ·simp only [pu_]
     rfl
    refine pure_ (i:=20) (N:=some 35) (v:=undef) (a':=?_) (bl 21 4) rfl rfl (any_of HT_.out (by kernel_rfl)) (fun _ _ _ h => h) (Or.inr ⟨by rfl,rfl⟩) ?_ ?_
    rotate_left
    ·simp only [pu_]
     rfl
    refine pure_ (i:=21) (N:=some 36) (v:=undef) (a':=?_) (bl 22 3) rfl rfl (any_of HT_.out (by kernel_rfl)) (fun _ _ _ h => h) (Or.inr ⟨by rfl,rfl⟩) ?_ ?_
    rotate_left
    ·simp only [pu_]
     rfl
    refine pure_ (i:=22) (N:=some 37) (v:=undef) (a':=?_) (bl 23 2) rfl rfl (any_of HT_.out (by kernel_rfl)) (fun _ _ _ h => h) (Or.inr ⟨by rfl,rfl⟩) ?_ ?_
    rotate_left
    ·simp only [pu_]
     rfl
    refine pure_ (i:=23) (N:=some 38) (v:=?_) (a':=?_) (bl 24 1) rfl rfl (any_of HT_.out (by kernel_rfl)) (fun _ _ _ h => h) (Or.inl ⟨by rfl,?_⟩) ?_ ?_
    rotate_left;·intro w';go_simp;with_reducible rfl
    rotate_left;·simp only [pu_];rfl
    refine pure_ (i:=24) (N:=some 39) (v:=?_) (a':=?_) (bl 25 0) rfl rfl (any_of HT_.out (by kernel_rfl)) (fun _ _ _ h => h) (Or.inl ⟨by rfl,?_⟩) ?_ ?_
    rotate_left;·intro w';go_simp;with_reducible rfl
    rotate_left;·simp only [pu_];rfl
    refine done_ (done_of HT_.out (by kernel_rfl)) ?_
    try go_wp2
    go_roundg k1
    case measure => have:=HK1.out;omega
    case rel => exact ⟨(wrap64 (x10_1 + 1)),(by first|rfl|(simp;done)|(simp [*];done)|(simp;rw [Bool.eq_iff_iff];simp;done)|(rw [Bool.eq_iff_iff];simp;done)),H',⟨by have:=HK1.out;omega⟩,⟨by repeat (first|(with_reducible first|exact HB.out|apply below_alloc|apply pw_below_drewN|apply below_drew1|refine below_set ?_ GE468.out)|exact HB.out)⟩⟩
   rw [if_pos c10] at H
   have c10b0 : decide (0 < x10_1) = true:=decide_eq_true c10
   clear c10
   obtain ⟨ji11,hji11⟩ : ∃ j_ : Int,(wrap64 (x10_1 - 1)) = j_:=⟨_,rfl⟩
   replace H : (if 0 ≤ (ji11) then (if (ji11) < (l0.length : Int) then (if ((Op.bytesLess (((rd_T37 l0 (ji11)).f0).toList) (((rd_T37 l0 x10_1).f0).toList)) = true) then (label_Valid.l0 k1 l0 l0 (l0.length : Int) (wrap64 (x10_1 + 1))) else (some 42)) else (none)) else (none)) = some r:=by first|(rw [hji11] at H;exact H)|(simp only [hji11] at H ⊢;exact H)
   (try rw [hji11] at A6)
   (try rw [hji11] at A8)
   have hji11w : (IntKind.i64.wrap (x10_1 - 1)) = ji11:=(i64_w _).trans hji11
   by_cases c12 : 0 ≤ (ji11)
   rotate_left
   ·rw [if_neg c12] at H
    exact absurd H (by simp)
   rw [if_pos c12] at H
   have c12b0 : decide (0 ≤ (ji11)) = true:=decide_eq_true c12
   clear c12
   by_cases c13 : (ji11) < (l0.length : Int)
   rotate_left
   ·rw [if_neg c13] at H
    exact absurd H (by simp)
   rw [if_pos c13] at H
   have c13b0 : decide ((ji11) < (l0.length : Int)) = true:=decide_eq_true c13
   clear c13
   by_cases c14 : ((Op.bytesLess (((rd_T37 l0 (ji11)).f0).toList) (((rd_T37 l0 x10_1).f0).toList)) = true)
   rotate_left
   ·rw [if_neg c14] at H
    have c14b0 : (Op.bytesLess (((rd_T37 l0 (ji11)).f0).toList) (((rd_T37 l0 x10_1).f0).toList)) = false:=by simpa using c14
    clear c14
    obtain rfl:=Option.some.inj H
    have p467 : 0 ≤ (x10_1 : Int):=of_decide_eq_true (by first|(with_reducible assumption)|assumption)
    have q467 : x10_1 < (l0.length : Int):=of_decide_eq_true (by first|(with_reducible assumption)|assumption)
    obtain ⟨ad467,e467,hx467_0,hx467_1⟩:=at_T37 HR0.out x10_1 p467 q467
    cases e467
    replace hx467_0:=(HB.out.cell (World.block_lt_of_cell? w _ hx467_0)).trans hx467_0
    replace hx467_1:=(HB.out.cell (World.block_lt_of_cell? w _ hx467_1)).trans hx467_1
    replace p467:=eq_true p467
    replace q467:=eq_true q467
    try go_wp2_with (first|((with_reducible refine gate_dst (N:=4) rfl ?_);refine box_event ?hg (N:=4) ?hd (cs:=#[.string (⟨#[]⟩ : ByteArray),.string (⟨#[]⟩ : ByteArray)]) (t:=37) ?hr ?_;(case hd => rfl);(case hg => rfl);(case hr => first|(go_simp;done)|(go_simp;rfl));intro gb468 hg w21 hbox hb;have n0_:=Aside0.mk (below_step (by repeat (first|(with_reducible first|exact HB.out|apply below_alloc|apply pw_below_drewN|apply below_drew1)|exact HB.out)) hb);have n1_:=Aside0.mk (hbox);have n2_:=Aside0.mk ((by rw [hg];exact (below_size (by repeat (first|(with_reducible first|exact HB.out|apply below_alloc|apply pw_below_drewN|apply below_drew1)|exact HB.out))) : w.heap.size ≤ gb468));have n3_:=Aside0.mk ((by rw [hg];exact (below_size (by repeat (first|(with_reducible first|exact HB.out|apply below_alloc|apply pw_below_drewN|apply below_drew1)|exact HB.out))) : w.heap.size ≤ gb468));clear HB;have HB:=n0_;have BK468:=n1_;have GW468:=n2_;have GE468:=n3_;clear n0_ n1_ n2_ n3_;clear hb hbox hg;have hcz22_0 : w21.cell? ⟨gb468,0,none⟩ = some (.string (⟨#[]⟩ : ByteArray)):=(blk_cell BK468.out 0).trans rfl;have hcz22_1 : w21.cell? ⟨gb468,1,none⟩ = some (.string (⟨#[]⟩ : ByteArray)):=(blk_cell BK468.out 1).trans rfl;have hfz22_0:=blk_frozen BK468.out 0;have hfz22_1:=blk_frozen BK468.out 1))
    have n0_ : Aside0 (((w21.setCell ⟨gb468,0,none⟩ (.string ((rd_T37 l0 x10_1).f0))).setCell ⟨gb468,1,none⟩ (.string ((rd_T37 l0 x10_1).f1))).heap[gb468]? = some (.cells #[.string ((rd_T37 l0 x10_1).f0),.string ((rd_T37 l0 x10_1).f1)] 37 (0,0))):=⟨by (with_reducible repeat (first|refine blk_drewN ?_ _|refine blk_drew ?_|refine blk_alloc ?_ _));refine blk_put (cs:=#[.string ((rd_T37 l0 x10_1).f0),.string (⟨#[]⟩ : ByteArray)]) ?_ 1 _ rfl;(with_reducible repeat (first|refine blk_drewN ?_ _|refine blk_drew ?_|refine blk_alloc ?_ _));refine blk_put (cs:=#[.string (⟨#[]⟩ : ByteArray),.string (⟨#[]⟩ : ByteArray)]) ?_ 0 _ rfl;(with_reducible repeat (first|refine blk_drewN ?_ _|refine blk_drew ?_|refine blk_alloc ?_ _));exact BK468.out⟩
    have n1_ : Aside0 (Below w.heap.size w ((w21.setCell ⟨gb468,0,none⟩ (.string ((rd_T37 l0 x10_1).f0))).setCell ⟨gb468,1,none⟩ (.string ((rd_T37 l0 x10_1).f1)))):=⟨by repeat (first|(with_reducible first|exact HB.out|apply below_alloc|apply pw_below_drewN|apply below_drew1|refine below_set ?_ GE468.out)|exact HB.out)⟩
    (try clear BK468);(try clear HB)
    generalize ((w21.setCell ⟨gb468,0,none⟩ (.string ((rd_T37 l0 x10_1).f0))).setCell ⟨gb468,1,none⟩ (.string ((rd_T37 l0 x10_1).f1))) = w23 at n0_ n1_ ⊢
    have BK468:=n0_;have HB:=n1_;clear n0_ n1_
    have n0_:=Aside0.mk (blk_drew BK468.out)
    have n1_:=Aside0.mk (below_drew1 HB.out)
    clear BK468;clear HB;have BK468:=n0_;have HB:=n1_;clear n0_ n1_
    have p471 : 0 ≤ ((ji11) : Int):=of_decide_eq_true (by first|(with_reducible assumption)|assumption)
    have q471 : (ji11) < (l0.length : Int):=of_decide_eq_true (by first|(with_reducible assumption)|assumption)
    obtain ⟨ad471,e471,hx471_0,hx471_1⟩:=at_T37 HR0.out (ji11) p471 q471
    have hw471_1:=hx471_1;have hw471_0:=hx471_0
    obtain rfl : ad467 = ad471:=(by injection e471)
    replace hx471_0:=(HB.out.cell (World.block_lt_of_cell? w _ hx471_0)).trans hx471_0
    replace hx471_1:=(HB.out.cell (World.block_lt_of_cell? w _ hx471_1)).trans hx471_1
    replace p471:=eq_true p471
    replace q471:=eq_true q471
    refine start_ (n:=25) (S:=fun w' => w'.cell? ⟨gb468,0,none⟩ = some (.string ((rd_T37 l0 x10_1).f0)) ∧ w'.cell? ⟨gb468,1,none⟩ = some (.string ((rd_T37 l0 x10_1).f1)) ∧ w'.cell? (ad467.add (((ji11)).toNat * 2)) = some (.string ((rd_T37 l0 (ji11)).f0)) ∧ w'.cell? ⟨(ad467.add (((ji11)).toNat * 2)).block,(ad467.add (((ji11)).toNat * 2)).off + 1,none⟩ = some (.string ((rd_T37 l0 (ji11)).f1))) (ds:=[]) (bl 0 25) (by kernel_rfl) rfl rfl ⟨(blk_cell BK468.out 0).trans rfl,(blk_cell BK468.out 1).trans rfl,((HB.out.cell (World.block_lt_of_cell? w _ hw471_0)).trans hw471_0),((HB.out.cell (World.block_lt_of_cell? w _ hw471_1)).trans hw471_1)⟩ (fun hHeld => ?_);refine with_tabW label_Valid.tab6 label_Valid.bits6 (fun HT_ HW_ => ?_)
    generalize w23.drew = w24 at BK468 HB hx471_0 hx471_1 hHeld ⊢
    refine pure_ (i:=0) (N:=some 15) (v:=?_) (a':=?_) (bl 1 24) rfl rfl (any_of HT_.out (by kernel_rfl)) (fun _ _ _ h => h) (Or.inl ⟨by rfl,?_⟩) ?_ ?_
    rotate_left;·intro w';go_simp;with_reducible rfl
    rotate_left;·simp only [pu_];rfl
    refine take_ (i:=1) (N:=some 16) (v:=?_) (a':=?_) (bl 2 23) rfl rfl (take_ofW HT_.out HW_.out (by kernel_rfl)) (fun _ _ _ h => h) (Or.inl ⟨by rfl,?_⟩) hHeld ?_ ?_
    rotate_left
    ·rintro w' ⟨s0,s1,s2,s3⟩
     go_simp
     with_reducible rfl
    rotate_left
    ·simp only [pu_]
     rfl
    refine one_ (i:=2) (N:=some 17) (bl 3 22) rfl rfl (one_of HT_.out (by kernel_rfl)) (by decide) (fun K hK => ?_)
    refine goes_ Tryd.func29 (by kernel_rfl) rfl #[.string ((rd_T37 l0 x10_1).f0)] (by rfl) rfl rfl (by (try simp only [List.map_toArray,List.map_cons,List.map_nil]);first|done|rfl|(simp only [List.length_drop,List.length_take];rfl)) ?_
    with_reducible refine (label_Name.calls ((rd_T37 l0 x10_1).f0) true _ A6.out).mono ?_
    rintro e w25 ⟨rfl,hb⟩
    refine ⟨_,rfl,?_⟩
    have n0_:=Aside0.mk (blk_below (g:=gb468) (o:=.cells #[.string ((rd_T37 l0 x10_1).f0),.string ((rd_T37 l0 x10_1).f1)] 37 (0,0)) (by (with_reducible repeat (first|refine blk_drewN ?_ _|refine blk_drew ?_|refine blk_alloc ?_ _));exact BK468.out) hb)
    have n1_:=Aside0.mk (below_step (by repeat (first|(with_reducible first|exact HB.out|apply below_alloc|apply pw_below_drewN|apply below_drew1|refine below_set ?_ GE468.out)|exact HB.out)) hb)
    clear BK468;clear HB;have BK468:=n0_;have HB:=n1_;clear n0_ n1_;(try clear hb);(try clear hb2);(try clear hk);(try clear hi)
    refine hK.out _ _ ⟨(blk_cell BK468.out 0).trans rfl,(blk_cell BK468.out 1).trans rfl,((HB.out.cell (World.block_lt_of_cell? w _ hw471_0)).trans hw471_0),((HB.out.cell (World.block_lt_of_cell? w _ hw471_1)).trans hw471_1)⟩ (fun hHeld => ?_)
    clear hK K
    refine norm_ (a':=?_) ?_ ?_
    rotate_left
    ·show Act.put _ (some 17) _ = _
     simp only [pu_]
     rfl
    refine pure_ (i:=3) (N:=some 18) (v:=?_) (a':=?_) (bl 4 21) rfl rfl (any_of HT_.out (by kernel_rfl)) (fun _ _ _ h => h) (Or.inl ⟨by rfl,?_⟩) ?_ ?_
    rotate_left;·intro w';go_simp;with_reducible rfl
    rotate_left;·simp only [pu_];rfl
    refine pure_ (i:=4) (N:=some 19) (v:=?_) (a':=?_) (bl 5 20) rfl rfl (any_of HT_.out (by kernel_rfl)) (fun _ _ _ h => h) (Or.inl ⟨by rfl,?_⟩) ?_ ?_
    rotate_left;·intro w';go_simp;with_reducible rfl
    rotate_left;·simp only [pu_];rfl
    refine pure_ (i:=5) (N:=some 20) (v:=?_) (a':=?_) (bl 6 19) rfl rfl (any_of HT_.out (by kernel_rfl)) (fun _ _ _ h => h) (Or.inl ⟨by rfl,?_⟩) ?_ ?_
    rotate_left;·intro w';go_simp;with_reducible rfl
    rotate_left;·simp only [pu_];rfl
    refine take_ (i:=6) (N:=some 21) (v:=?_) (a':=?_) (bl 7 18) rfl rfl (take_ofW HT_.out HW_.out (by kernel_rfl)) (fun _ _ _ h => h) (Or.inl ⟨by rfl,?_⟩) hHeld ?_ ?_
    rotate_left
    ·rintro w' ⟨s0,s1,s2,s3⟩
     go_simp
     with_reducible rfl
    rotate_left
    ·simp only [pu_]
     rfl
    refine one_ (i:=7) (N:=some 22) (bl 8 17) rfl rfl (one_of HT_.out (by kernel_rfl)) (by decide) (fun K hK => ?_)
    refine goes_ Tryd.func65 (by kernel_rfl) rfl #[.string ((rd_T37 l0 x10_1).f1)] (by rfl) rfl rfl (by (try simp only [List.map_toArray,List.map_cons,List.map_nil]);first|done|rfl|(simp only [List.length_drop,List.length_take];rfl)) ?_
    with_reducible refine (label_value.calls ((rd_T37 l0 x10_1).f1) true _ A8.out).mono ?_
    rintro e w26 ⟨rfl,hb⟩
    refine ⟨_,rfl,?_⟩
    have n0_:=Aside0.mk (blk_below (g:=gb468) (o:=.cells #[.string ((rd_T37 l0 x10_1).f0),.string ((rd_T37 l0 x10_1).f1)] 37 (0,0)) (by (with_reducible repeat (first|refine blk_drewN ?_ _|refine blk_drew ?_|refine blk_alloc ?_ _));exact BK468.out) hb)
    have n1_:=Aside0.mk (below_step (by repeat (first|(with_reducible first|exact HB.out|apply below_alloc|apply pw_below_drewN|apply below_drew1|refine below_set ?_ GE468.out)|exact HB.out)) hb)
    clear BK468;clear HB;have BK468:=n0_;have HB:=n1_;clear n0_ n1_;(try clear hb);(try clear hb2);(try clear hk);(try clear hi)
    refine hK.out _ _ ⟨(blk_cell BK468.out 0).trans rfl,(blk_cell BK468.out 1).trans rfl,((HB.out.cell (World.block_lt_of_cell? w _ hw471_0)).trans hw471_0),((HB.out.cell (World.block_lt_of_cell? w _ hw471_1)).trans hw471_1)⟩ (fun hHeld => ?_)
    clear hK K
    refine norm_ (a':=?_) ?_ ?_
    rotate_left
    ·show Act.put _ (some 22) _ = _
     simp only [pu_]
     rfl
    refine pure_ (i:=8) (N:=some 23) (v:=?_) (a':=?_) (bl 9 16) rfl rfl (any_of HT_.out (by kernel_rfl)) (fun _ _ _ h => h) (Or.inl ⟨by rfl,?_⟩) ?_ ?_
    rotate_left;·intro w';go_simp;with_reducible rfl
    rotate_left;·simp only [pu_];rfl
    refine pure_ (i:=9) (N:=some 24) (v:=?_) (a':=?_) (bl 10 15) rfl rfl (any_of HT_.out (by kernel_rfl)) (fun _ _ _ h => h) (Or.inl ⟨by rfl,?_⟩) ?_ ?_
    rotate_left;·intro w';go_simp;with_reducible rfl
    rotate_left;·simp only [pu_];rfl
    refine pure_ (i:=10) (N:=some 25) (v:=?_) (a':=?_) (bl 11 14) rfl rfl (any_of HT_.out (by kernel_rfl)) (fun _ _ _ h => h) (Or.inl ⟨by rfl,?_⟩) ?_ ?_
    rotate_left;·intro w';go_simp;with_reducible rfl
    rotate_left;·simp only [pu_];rfl
    refine pure_ (i:=11) (N:=some 26) (v:=?_) (a':=?_) (bl 12 13) rfl rfl (any_of HT_.out (by kernel_rfl)) (fun _ _ _ h => h) (Or.inl ⟨by rfl,?_⟩) ?_ ?_
    rotate_left;·intro w';go_simp;with_reducible rfl
    rotate_left;·simp only [pu_];rfl
    refine pure_ (i:=12) (N:=some 27) (v:=?_) (a':=?_) (bl 13 12) rfl rfl (any_of HT_.out (by kernel_rfl)) (fun _ _ _ h => h) (Or.inl ⟨by rfl,?_⟩) ?_ ?_
    rotate_left;·intro w';go_simp;with_reducible rfl
    rotate_left;·simp only [pu_];rfl
    refine pure_ (i:=13) (N:=some 28) (v:=?_) (a':=?_) (bl 14 11) rfl rfl (any_of HT_.out (by kernel_rfl)) (fun _ _ _ h => h) (Or.inl ⟨by rfl,?_⟩) ?_ ?_
    rotate_left;·intro w';go_simp;with_reducible rfl
    rotate_left;·simp only [pu_];rfl
    refine pure_ (i:=14) (N:=some 29) (v:=?_) (a':=?_) (bl 15 10) rfl rfl (any_of HT_.out (by kernel_rfl)) (fun _ _ _ h => h) (Or.inl ⟨by rfl,?_⟩) ?_ ?_
    rotate_left;·intro w';go_simp;with_reducible rfl
    rotate_left;·simp only [pu_];rfl
    refine pure_ (i:=15) (N:=some 30) (v:=?_) (a':=?_) (bl 16 9) rfl rfl (any_of HT_.out (by kernel_rfl)) (fun _ _ _ h => h) (Or.inl ⟨by rfl,?_⟩) ?_ ?_
    rotate_left;·intro w';go_simp;with_reducible rfl
    rotate_left;·simp only [pu_];rfl
    refine pure_ (i:=16) (N:=some 31) (v:=?_) (a':=?_) (bl 17 8) rfl rfl (any_of HT_.out (by kernel_rfl)) (fun _ _ _ h => h) (Or.inl ⟨by rfl,?_⟩) ?_ ?_
    rotate_left;·intro w';go_simp;with_reducible rfl
    rotate_left;·simp only [pu_];rfl
    refine pure_ (i:=17) (N:=some 32) (v:=?_) (a':=?_) (bl 18 7) rfl rfl (any_of HT_.out (by kernel_rfl)) (fun _ _ _ h => h) (Or.inl ⟨by rfl,?_⟩) ?_ ?_
    rotate_left;·intro w';go_simp;with_reducible rfl
    rotate_left;·simp only [pu_];rfl
    refine pure_ (i:=18) (N:=some 33) (v:=?_) (a':=?_) (bl 19 6) rfl rfl (any_of HT_.out (by kernel_rfl)) (fun _ _ _ h => h) (Or.inl ⟨by rfl,?_⟩) ?_ ?_
    rotate_left;·intro w';go_simp;with_reducible rfl
    rotate_left;·simp only [pu_];rfl
    refine pure_ (i:=20) (N:=some 35) (v:=?_) (a':=?_) #[true,true,true,true,true,true,true,true,true,true,true,true,true,true,true,true,true,true,true,false,true,false,false,false,false] rfl rfl (any_of HT_.out (by kernel_rfl)) (fun _ _ _ h => h) (Or.inl ⟨by rfl,?_⟩) ?_ ?_
    rotate_left;·intro w';go_simp;with_reducible rfl
    rotate_left;·simp only [pu_];rfl
    refine take_ (i:=19) (N:=some 34) (v:=?_) (a':=?_) (bl 21 4) rfl rfl (take_ofW HT_.out HW_.out (by kernel_rfl)) (fun _ _ _ h => h) (Or.inl ⟨by rfl,?_⟩) hHeld ?_ ?_
    rotate_left
    ·rintro w' ⟨s0,s1,s2,s3⟩
     go_simp
     with_reducible rfl
    rotate_left
    ·simp only [pu_]
     rfl
    refine take_ (i:=21) (N:=some 36) (v:=?_) (a':=?_) (bl 22 3) rfl rfl (take_ofW HT_.out HW_.out (by kernel_rfl)) (fun _ _ _ h => h) (Or.inl ⟨by rfl,?_⟩) hHeld ?_ ?_
    rotate_left
    ·rintro w' ⟨s0,s1,s2,s3⟩
     go_simp
     with_reducible rfl
    rotate_left
    ·simp only [pu_]
     rfl
    refine pure_ (i:=22) (N:=some 37) (v:=?_) (a':=?_) (bl 23 2) rfl rfl (any_of HT_.out (by kernel_rfl)) (fun _ _ _ h => h) (Or.inl ⟨by rfl,?_⟩) ?_ ?_
    rotate_left;·intro w';go_simp;with_reducible rfl
    rotate_left;·simp only [pu_];rfl
    refine pure_ (i:=23) (N:=some 38) (v:=?_) (a':=?_) (bl 24 1) rfl rfl (any_of HT_.out (by kernel_rfl)) (fun _ _ _ h => h) (Or.inl ⟨by rfl,?_⟩) ?_ ?_
    rotate_left;·intro w';go_simp;with_reducible rfl
    rotate_left;·simp only [pu_];rfl
    refine pure_ (i:=24) (N:=some 39) (v:=?_) (a':=?_) (bl 25 0) rfl rfl (any_of HT_.out (by kernel_rfl)) (fun _ _ _ h => h) (Or.inl ⟨by rfl,?_⟩) ?_ ?_
    rotate_left;·intro w';go_simp;with_reducible rfl
    rotate_left;·simp only [pu_];rfl
    refine done_ (done_of HT_.out (by kernel_rfl)) ?_
    try go_wp2
    go_ret
    exact ⟨by first|rfl|(simp [errW_none,errW_some] <;> rfl)|(simp only [← hji11];first|rfl|(simp [errW_none,errW_some] <;> rfl))|(simp [*,errW_none,errW_some] <;> rfl),by repeat (first|(with_reducible first|exact HB.out|apply below_alloc|apply pw_below_drewN|apply below_drew1|refine below_set ?_ GE468.out)|exact HB.out)⟩
   rw [if_pos c14] at H
   have c14b0 : (Op.bytesLess (((rd_T37 l0 (ji11)).f0).toList) (((rd_T37 l0 x10_1).f0).toList)) = true:=c14
   clear c14
   have H':=Aside0.mk H
   clear H
   have p467 : 0 ≤ (x10_1 : Int):=of_decide_eq_true (by first|(with_reducible assumption)|assumption)
   have q467 : x10_1 < (l0.length : Int):=of_decide_eq_true (by first|(with_reducible assumption)|assumption)
   obtain ⟨ad467,e467,hx467_0,hx467_1⟩:=at_T37 HR0.out x10_1 p467 q467
   cases e467
   replace hx467_0:=(HB.out.cell (World.block_lt_of_cell? w _ hx467_0)).trans hx467_0
   replace hx467_1:=(HB.out.cell (World.block_lt_of_cell? w _ hx467_1)).trans hx467_1
   replace p467:=eq_true p467
   replace q467:=eq_true q467
   try go_wp2_with (first|((with_reducible refine gate_dst (N:=4) rfl ?_);refine box_event ?hg (N:=4) ?hd (cs:=#[.string (⟨#[]⟩ : ByteArray),.string (⟨#[]⟩ : ByteArray)]) (t:=37) ?hr ?_;(case hd => rfl);(case hg => rfl);(case hr => first|(go_simp;done)|(go_simp;rfl));intro gb468 hg w15 hbox hb;have n0_:=Aside0.mk (below_step (by repeat (first|(with_reducible first|exact HB.out|apply below_alloc|apply pw_below_drewN|apply below_drew1)|exact HB.out)) hb);have n1_:=Aside0.mk (hbox);have n2_:=Aside0.mk ((by rw [hg];exact (below_size (by repeat (first|(with_reducible first|exact HB.out|apply below_alloc|apply pw_below_drewN|apply below_drew1)|exact HB.out))) : w.heap.size ≤ gb468));have n3_:=Aside0.mk ((by rw [hg];exact (below_size (by repeat (first|(with_reducible first|exact HB.out|apply below_alloc|apply pw_below_drewN|apply below_drew1)|exact HB.out))) : w.heap.size ≤ gb468));clear HB;have HB:=n0_;have BK468:=n1_;have GW468:=n2_;have GE468:=n3_;clear n0_ n1_ n2_ n3_;clear hb hbox hg;have hcz16_0 : w15.cell? ⟨gb468,0,none⟩ = some (.string (⟨#[]⟩ : ByteArray)):=(blk_cell BK468.out 0).trans rfl;have hcz16_1 : w15.cell? ⟨gb468,1,none⟩ = some (.string (⟨#[]⟩ : ByteArray)):=(blk_cell BK468.out 1).trans rfl;have hfz16_0:=blk_frozen BK468.out 0;have hfz16_1:=blk_frozen BK468.out 1))
   have n0_ : Aside0 (((w15.setCell ⟨gb468,0,none⟩ (.string ((rd_T37 l0 x10_1).f0))).setCell ⟨gb468,1,none⟩ (.string ((rd_T37 l0 x10_1).f1))).heap[gb468]? = some (.cells #[.string ((rd_T37 l0 x10_1).f0),.string ((rd_T37 l0 x10_1).f1)] 37 (0,0))):=⟨by (with_reducible repeat (first|refine blk_drewN ?_ _|refine blk_drew ?_|refine blk_alloc ?_ _));refine blk_put (cs:=#[.string ((rd_T37 l0 x10_1).f0),.string (⟨#[]⟩ : ByteArray)]) ?_ 1 _ rfl;(with_reducible repeat (first|refine blk_drewN ?_ _|refine blk_drew ?_|refine blk_alloc ?_ _));refine blk_put (cs:=#[.string (⟨#[]⟩ : ByteArray),.string (⟨#[]⟩ : ByteArray)]) ?_ 0 _ rfl;(with_reducible repeat (first|refine blk_drewN ?_ _|refine blk_drew ?_|refine blk_alloc ?_ _));exact BK468.out⟩
   have n1_ : Aside0 (Below w.heap.size w ((w15.setCell ⟨gb468,0,none⟩ (.string ((rd_T37 l0 x10_1).f0))).setCell ⟨gb468,1,none⟩ (.string ((rd_T37 l0 x10_1).f1)))):=⟨by repeat (first|(with_reducible first|exact HB.out|apply below_alloc|apply pw_below_drewN|apply below_drew1|refine below_set ?_ GE468.out)|exact HB.out)⟩
   (try clear BK468);(try clear HB)
   generalize ((w15.setCell ⟨gb468,0,none⟩ (.string ((rd_T37 l0 x10_1).f0))).setCell ⟨gb468,1,none⟩ (.string ((rd_T37 l0 x10_1).f1))) = w17 at n0_ n1_ ⊢
   have BK468:=n0_;have HB:=n1_;clear n0_ n1_
   have n0_:=Aside0.mk (blk_drew BK468.out)
   have n1_:=Aside0.mk (below_drew1 HB.out)
   clear BK468;clear HB;have BK468:=n0_;have HB:=n1_;clear n0_ n1_
   have p471 : 0 ≤ ((ji11) : Int):=of_decide_eq_true (by first|(with_reducible assumption)|assumption)
   have q471 : (ji11) < (l0.length : Int):=of_decide_eq_true (by first|(with_reducible assumption)|assumption)
   obtain ⟨ad471,e471,hx471_0,hx471_1⟩:=at_T37 HR0.out (ji11) p471 q471
   have hw471_1:=hx471_1;have hw471_0:=hx471_0
   obtain rfl : ad467 = ad471:=(by injection e471)
   replace hx471_0:=(HB.out.cell (World.block_lt_of_cell? w _ hx471_0)).trans hx471_0
   replace hx471_1:=(HB.out.cell (World.block_lt_of_cell? w _ hx471_1)).trans hx471_1
   replace p471:=eq_true p471
   replace q471:=eq_true q471
   refine start_ (n:=25) (S:=fun w' => w'.cell? ⟨gb468,0,none⟩ = some (.string ((rd_T37 l0 x10_1).f0)) ∧ w'.cell? ⟨gb468,1,none⟩ = some (.string ((rd_T37 l0 x10_1).f1)) ∧ w'.cell? (ad467.add (((ji11)).toNat * 2)) = some (.string ((rd_T37 l0 (ji11)).f0)) ∧ w'.cell? ⟨(ad467.add (((ji11)).toNat * 2)).block,(ad467.add (((ji11)).toNat * 2)).off + 1,none⟩ = some (.string ((rd_T37 l0 (ji11)).f1))) (ds:=[]) (bl 0 25) (by kernel_rfl) rfl rfl ⟨(blk_cell BK468.out 0).trans rfl,(blk_cell BK468.out 1).trans rfl,((HB.out.cell (World.block_lt_of_cell? w _ hw471_0)).trans hw471_0),((HB.out.cell (World.block_lt_of_cell? w _ hw471_1)).trans hw471_1)⟩ (fun hHeld => ?_);refine with_tabW label_Valid.tab6 label_Valid.bits6 (fun HT_ HW_ => ?_)
   generalize w17.drew = w18 at BK468 HB hx471_0 hx471_1 hHeld ⊢
   refine pure_ (i:=0) (N:=some 15) (v:=?_) (a':=?_) (bl 1 24) rfl rfl (any_of HT_.out (by kernel_rfl)) (fun _ _ _ h => h) (Or.inl ⟨by rfl,?_⟩) ?_ ?_
   rotate_left;·intro w';go_simp;with_reducible rfl
   rotate_left;·simp only [pu_];rfl
   refine take_ (i:=1) (N:=some 16) (v:=?_) (a':=?_) (bl 2 23) rfl rfl (take_ofW HT_.out HW_.out (by kernel_rfl)) (fun _ _ _ h => h) (Or.inl ⟨by rfl,?_⟩) hHeld ?_ ?_
   rotate_left
   ·rintro w' ⟨s0,s1,s2,s3⟩
    go_simp
    with_reducible rfl
   rotate_left
   ·simp only [pu_]
    rfl
   refine one_ (i:=2) (N:=some 17) (bl 3 22) rfl rfl (one_of HT_.out (by kernel_rfl)) (by decide) (fun K hK => ?_)
   refine goes_ Tryd.func29 (by kernel_rfl) rfl #[.string ((rd_T37 l0 x10_1).f0)] (by rfl) rfl rfl (by (try simp only [List.map_toArray,List.map_cons,List.map_nil]);first|done|rfl|(simp only [List.length_drop,List.length_take];rfl)) ?_
   with_reducible refine (label_Name.calls ((rd_T37 l0 x10_1).f0) true _ A6.out).mono ?_
   rintro e w19 ⟨rfl,hb⟩
   refine ⟨_,rfl,?_⟩
   have n0_:=Aside0.mk (blk_below (g:=gb468) (o:=.cells #[.string ((rd_T37 l0 x10_1).f0),.string ((rd_T37 l0 x10_1).f1)] 37 (0,0)) (by (with_reducible repeat (first|refine blk_drewN ?_ _|refine blk_drew ?_|refine blk_alloc ?_ _));exact BK468.out) hb)
   have n1_:=Aside0.mk (below_step (by repeat (first|(with_reducible first|exact HB.out|apply below_alloc|apply pw_below_drewN|apply below_drew1|refine below_set ?_ GE468.out)|exact HB.out)) hb)
   clear BK468;clear HB;have BK468:=n0_;have HB:=n1_;clear n0_ n1_;(try clear hb);(try clear hb2);(try clear hk);(try clear hi)
   refine hK.out _ _ ⟨(blk_cell BK468.out 0).trans rfl,(blk_cell BK468.out 1).trans rfl,((HB.out.cell (World.block_lt_of_cell? w _ hw471_0)).trans hw471_0),((HB.out.cell (World.block_lt_of_cell? w _ hw471_1)).trans hw471_1)⟩ (fun hHeld => ?_)
   clear hK K
   refine norm_ (a':=?_) ?_ ?_
   rotate_left
   ·show Act.put _ (some 17) _ = _
    simp only [pu_]
    rfl
   refine pure_ (i:=3) (N:=some 18) (v:=?_) (a':=?_) (bl 4 21) rfl rfl (any_of HT_.out (by kernel_rfl)) (fun _ _ _ h => h) (Or.inl ⟨by rfl,?_⟩) ?_ ?_
   rotate_left;·intro w';go_simp;with_reducible rfl
   rotate_left;·simp only [pu_];rfl
   refine pure_ (i:=4) (N:=some 19) (v:=?_) (a':=?_) (bl 5 20) rfl rfl (any_of HT_.out (by kernel_rfl)) (fun _ _ _ h => h) (Or.inl ⟨by rfl,?_⟩) ?_ ?_
   rotate_left;·intro w';go_simp;with_reducible rfl
   rotate_left;·simp only [pu_];rfl
   refine pure_ (i:=5) (N:=some 20) (v:=?_) (a':=?_) (bl 6 19) rfl rfl (any_of HT_.out (by kernel_rfl)) (fun _ _ _ h => h) (Or.inl ⟨by rfl,?_⟩) ?_ ?_
   rotate_left;·intro w';go_simp;with_reducible rfl
   rotate_left;·simp only [pu_];rfl
   refine take_ (i:=6) (N:=some 21) (v:=?_) (a':=?_) (bl 7 18) rfl rfl (take_ofW HT_.out HW_.out (by kernel_rfl)) (fun _ _ _ h => h) (Or.inl ⟨by rfl,?_⟩) hHeld ?_ ?_
   rotate_left
   ·rintro w' ⟨s0,s1,s2,s3⟩
    go_simp
    with_reducible rfl
   rotate_left
   ·simp only [pu_]
    rfl
   refine one_ (i:=7) (N:=some 22) (bl 8 17) rfl rfl (one_of HT_.out (by kernel_rfl)) (by decide) (fun K hK => ?_)
   refine goes_ Tryd.func65 (by kernel_rfl) rfl #[.string ((rd_T37 l0 x10_1).f1)] (by rfl) rfl rfl (by (try simp only [List.map_toArray,List.map_cons,List.map_nil]);first|done|rfl|(simp only [List.length_drop,List.length_take];rfl)) ?_
   with_reducible refine (label_value.calls ((rd_T37 l0 x10_1).f1) true _ A8.out).mono ?_
   rintro e w20 ⟨rfl,hb⟩
   refine ⟨_,rfl,?_⟩
   have n0_:=Aside0.mk (blk_below (g:=gb468) (o:=.cells #[.string ((rd_T37 l0 x10_1).f0),.string ((rd_T37 l0 x10_1).f1)] 37 (0,0)) (by (with_reducible repeat (first|refine blk_drewN ?_ _|refine blk_drew ?_|refine blk_alloc ?_ _));exact BK468.out) hb)
   have n1_:=Aside0.mk (below_step (by repeat (first|(with_reducible first|exact HB.out|apply below_alloc|apply pw_below_drewN|apply below_drew1|refine below_set ?_ GE468.out)|exact HB.out)) hb)
   clear BK468;clear HB;have BK468:=n0_;have HB:=n1_;clear n0_ n1_;(try clear hb);(try clear hb2);(try clear hk);(try clear hi)
   refine hK.out _ _ ⟨(blk_cell BK468.out 0).trans rfl,(blk_cell BK468.out 1).trans rfl,((HB.out.cell (World.block_lt_of_cell? w _ hw471_0)).trans hw471_0),((HB.out.cell (World.block_lt_of_cell? w _ hw471_1)).trans hw471_1)⟩ (fun hHeld => ?_)
   clear hK K
   refine norm_ (a':=?_) ?_ ?_
   rotate_left
   ·show Act.put _ (some 22) _ = _
    simp only [pu_]
    rfl
   refine pure_ (i:=8) (N:=some 23) (v:=?_) (a':=?_) (bl 9 16) rfl rfl (any_of HT_.out (by kernel_rfl)) (fun _ _ _ h => h) (Or.inl ⟨by rfl,?_⟩) ?_ ?_
   rotate_left;·intro w';go_simp;with_reducible rfl
   rotate_left;·simp only [pu_];rfl
   refine pure_ (i:=9) (N:=some 24) (v:=?_) (a':=?_) (bl 10 15) rfl rfl (any_of HT_.out (by kernel_rfl)) (fun _ _ _ h => h) (Or.inl ⟨by rfl,?_⟩) ?_ ?_
   rotate_left;·intro w';go_simp;with_reducible rfl
   rotate_left;·simp only [pu_];rfl
   refine pure_ (i:=10) (N:=some 25) (v:=?_) (a':=?_) (bl 11 14) rfl rfl (any_of HT_.out (by kernel_rfl)) (fun _ _ _ h => h) (Or.inl ⟨by rfl,?_⟩) ?_ ?_
   rotate_left;·intro w';go_simp;with_reducible rfl
   rotate_left;·simp only [pu_];rfl
   refine pure_ (i:=11) (N:=some 26) (v:=?_) (a':=?_) (bl 12 13) rfl rfl (any_of HT_.out (by kernel_rfl)) (fun _ _ _ h => h) (Or.inl ⟨by rfl,?_⟩) ?_ ?_
   rotate_left;·intro w';go_simp;with_reducible rfl
   rotate_left;·simp only [pu_];rfl
   refine pure_ (i:=12) (N:=some 27) (v:=?_) (a':=?_) (bl 13 12) rfl rfl (any_of HT_.out (by kernel_rfl)) (fun _ _ _ h => h) (Or.inl ⟨by rfl,?_⟩) ?_ ?_
   rotate_left;·intro w';go_simp;with_reducible rfl
   rotate_left;·simp only [pu_];rfl
   refine pure_ (i:=13) (N:=some 28) (v:=?_) (a':=?_) (bl 14 11) rfl rfl (any_of HT_.out (by kernel_rfl)) (fun _ _ _ h => h) (Or.inl ⟨by rfl,?_⟩) ?_ ?_
   rotate_left;·intro w';go_simp;with_reducible rfl
   rotate_left;·simp only [pu_];rfl
   refine pure_ (i:=14) (N:=some 29) (v:=?_) (a':=?_) (bl 15 10) rfl rfl (any_of HT_.out (by kernel_rfl)) (fun _ _ _ h => h) (Or.inl ⟨by rfl,?_⟩) ?_ ?_
   rotate_left;·intro w';go_simp;with_reducible rfl
   rotate_left;·simp only [pu_];rfl
   refine pure_ (i:=15) (N:=some 30) (v:=?_) (a':=?_) (bl 16 9) rfl rfl (any_of HT_.out (by kernel_rfl)) (fun _ _ _ h => h) (Or.inl ⟨by rfl,?_⟩) ?_ ?_
   rotate_left;·intro w';go_simp;with_reducible rfl
   rotate_left;·simp only [pu_];rfl
   refine pure_ (i:=16) (N:=some 31) (v:=?_) (a':=?_) (bl 17 8) rfl rfl (any_of HT_.out (by kernel_rfl)) (fun _ _ _ h => h) (Or.inl ⟨by rfl,?_⟩) ?_ ?_
   rotate_left;·intro w';go_simp;with_reducible rfl
   rotate_left;·simp only [pu_];rfl
   refine pure_ (i:=17) (N:=some 32) (v:=?_) (a':=?_) (bl 18 7) rfl rfl (any_of HT_.out (by kernel_rfl)) (fun _ _ _ h => h) (Or.inl ⟨by rfl,?_⟩) ?_ ?_
   rotate_left;·intro w';go_simp;with_reducible rfl
   rotate_left;·simp only [pu_];rfl
   refine pure_ (i:=18) (N:=some 33) (v:=?_) (a':=?_) (bl 19 6) rfl rfl (any_of HT_.out (by kernel_rfl)) (fun _ _ _ h => h) (Or.inl ⟨by rfl,?_⟩) ?_ ?_
   rotate_left;·intro w';go_simp;with_reducible rfl
   rotate_left;·simp only [pu_];rfl
   refine pure_ (i:=20) (N:=some 35) (v:=?_) (a':=?_) #[true,true,true,true,true,true,true,true,true,true,true,true,true,true,true,true,true,true,true,false,true,false,false,false,false] rfl rfl (any_of HT_.out (by kernel_rfl)) (fun _ _ _ h => h) (Or.inl ⟨by rfl,?_⟩) ?_ ?_
   rotate_left;·intro w';go_simp;with_reducible rfl
   rotate_left;·simp only [pu_];rfl
   refine take_ (i:=19) (N:=some 34) (v:=?_) (a':=?_) (bl 21 4) rfl rfl (take_ofW HT_.out HW_.out (by kernel_rfl)) (fun _ _ _ h => h) (Or.inl ⟨by rfl,?_⟩) hHeld ?_ ?_
   rotate_left
   ·rintro w' ⟨s0,s1,s2,s3⟩
    go_simp
    with_reducible rfl
   rotate_left
   ·simp only [pu_]
    rfl
   refine take_ (i:=21) (N:=some 36) (v:=?_) (a':=?_) (bl 22 3) rfl rfl (take_ofW HT_.out HW_.out (by kernel_rfl)) (fun _ _ _ h => h) (Or.inl ⟨by rfl,?_⟩) hHeld ?_ ?_
   rotate_left
   ·rintro w' ⟨s0,s1,s2,s3⟩
    go_simp
    with_reducible rfl
   rotate_left
   ·simp only [pu_]
    rfl
   refine pure_ (i:=22) (N:=some 37) (v:=?_) (a':=?_) (bl 23 2) rfl rfl (any_of HT_.out (by kernel_rfl)) (fun _ _ _ h => h) (Or.inl ⟨by rfl,?_⟩) ?_ ?_
   rotate_left;·intro w';go_simp;with_reducible rfl
   rotate_left;·simp only [pu_];rfl
   refine pure_ (i:=23) (N:=some 38) (v:=?_) (a':=?_) (bl 24 1) rfl rfl (any_of HT_.out (by kernel_rfl)) (fun _ _ _ h => h) (Or.inl ⟨by rfl,?_⟩) ?_ ?_
   rotate_left;·intro w';go_simp;with_reducible rfl
   rotate_left;·simp only [pu_];rfl
   refine pure_ (i:=24) (N:=some 39) (v:=?_) (a':=?_) (bl 25 0) rfl rfl (any_of HT_.out (by kernel_rfl)) (fun _ _ _ h => h) (Or.inl ⟨by rfl,?_⟩) ?_ ?_
   rotate_left;·intro w';go_simp;with_reducible rfl
   rotate_left;·simp only [pu_];rfl
   refine done_ (done_of HT_.out (by kernel_rfl)) ?_
   try go_wp2
   go_roundg k1
   case measure => have:=HK1.out;omega
   case rel => exact ⟨(wrap64 (x10_1 + 1)),(by first|rfl|(simp;done)|(simp [*];done)|(simp;rw [Bool.eq_iff_iff];simp;done)|(rw [Bool.eq_iff_iff];simp;done)),H',⟨by have:=HK1.out;omega⟩,⟨by repeat (first|(with_reducible first|exact HB.out|apply below_alloc|apply pw_below_drewN|apply below_drew1|refine below_set ?_ GE468.out)|exact HB.out)⟩⟩
end Go.Proofs.YtniolbolfclhkaaDoor.Q
namespace Go.Proofs.YtniolbolfclhkaaDoor.Q
open Go.RowKit Go.Proofs.YtniolbolfclhkaaDoorW.PrintWords Go.Proofs.YtniolbolfclhkaaDoorW.PrintLast Go.Proofs.YtniolbolfclhkaaDoorW.PrintMore
attribute [local go_sem] max2_int min2_int max_two min_two max_three min_three max_four min_four   -- for this text's walks alone
set_option linter.unusedVariables false
set_option linter.unusedSimpArgs false
def stringslite_HasPrefix.f (a0 : ByteArray) (a1 : ByteArray) : Option (Bool) := if (a0.size : Int) ≥ (a1.size : Int) then (if 0 ≤ (a1.size : Int) then (if (a1.size : Int) ≤ (a0.size : Int) then (some ((a0.extract 0 ((a1.size : Int) : Int).toNat).toList == a1.toList)) else (none)) else (none)) else (some false)
set_option maxHeartbeats 8000000 in
set_option maxRecDepth 100000 in
theorem stringslite_HasPrefix.calls (a0 : ByteArray) (a1 : ByteArray) (r : Bool) (w : World) (h : stringslite_HasPrefix.f a0 a1 = some r) :
  Calls Tryd.prog 80 #[.string a0,.string a1] w fun e w' => e = .returned (.bool r) ∧ Drawn0 w w':=by
 have H : (if (a0.size : Int) ≥ (a1.size : Int) then (if 0 ≤ (a1.size : Int) then (if (a1.size : Int) ≤ (a0.size : Int) then (some ((a0.extract 0 ((a1.size : Int) : Int).toNat).toList == a1.toList)) else (none)) else (none)) else (some false)) = some r:=h
 clear h
 by_cases c3 : (a0.size : Int) ≥ (a1.size : Int)
 ·rw [if_pos c3] at H
  have c3b0 : decide ((a1.size : Int) ≤ (a0.size : Int)) = true:=decide_eq_true c3
  have c3b1 : decide (a1.size ≤ a0.size) = true:=decide_eq_true (Int.ofNat_le.mp c3)
  clear c3
  by_cases c4 : 0 ≤ (a1.size : Int)
  ·rw [if_pos c4] at H
   have c4b0:=eq_true c4
   have c4b1 : decide (0 ≤ (a1.size : Int)) = true:=decide_eq_true c4
   clear c4
   by_cases c5 : (a1.size : Int) ≤ (a0.size : Int)
   ·rw [if_pos c5] at H
    have c5b0:=eq_true c5
    have c5b1 : decide ((a1.size : Int) ≤ (a0.size : Int)) = true:=decide_eq_true c5
    clear c5
    obtain rfl:=Option.some.inj H
    go_enter Tryd.func80,Tryd.ntmps80
    go_wp2
    go_ret
    exact ⟨by first|rfl|(simp;done)|(simp [*];done),by repeat (first|exact Drawn0.refl _|apply Drawn0.step)⟩
   ·rw [if_neg c5] at H
    exact absurd H (by simp)
  ·rw [if_neg c4] at H
   exact absurd H (by simp)
 ·rw [if_neg c3] at H
  have c3b0 : decide ((a1.size : Int) ≤ (a0.size : Int)) = false:=decide_eq_false c3
  have c3b1 : decide (a1.size ≤ a0.size) = false:=decide_eq_false (fun h => c3 (Int.ofNat_le.mpr h))
  clear c3
  obtain rfl:=Option.some.inj H
  go_enter Tryd.func80,Tryd.ntmps80
  go_wp2
  go_ret
  exact ⟨by first|rfl|(simp;done)|(simp [*];done),by repeat (first|exact Drawn0.refl _|apply Drawn0.step)⟩
end Go.Proofs.YtniolbolfclhkaaDoor.Q
namespace Go.Proofs.YtniolbolfclhkaaDoor.Q
open Go.RowKit Go.Proofs.YtniolbolfclhkaaDoorW.PrintWords Go.Proofs.YtniolbolfclhkaaDoorW.PrintLast Go.Proofs.YtniolbolfclhkaaDoorW.PrintMore
attribute [local go_sem] max2_int min2_int max_two min_two max_three min_three max_four min_four   -- for this text's walks alone
set_option linter.unusedVariables false
set_option linter.unusedSimpArgs false
def stringslite_CutPrefix.f (a0 : ByteArray) (a1 : ByteArray) : Option (ByteArray × Bool) := (stringslite_HasPrefix.f a0 a1).bind fun t452 => (if t452 = true then (if 0 ≤ (a1.size : Int) then (if (a1.size : Int) ≤ (a0.size : Int) then (some (a0.extract ((a1.size : Int) : Int).toNat a0.size, true)) else (none)) else (none)) else (some (a0, false)))
set_option maxHeartbeats 8000000 in
set_option maxRecDepth 100000 in
theorem stringslite_CutPrefix.calls (a0 : ByteArray) (a1 : ByteArray) (r1 : ByteArray) (r2 : Bool) (w : World) (h : stringslite_CutPrefix.f a0 a1 = some (r1, r2)) :
  Calls Tryd.prog 73 #[.string a0,.string a1] w fun e w' => e = .returned (.tuple #[.string r1,.bool r2]) ∧ Drawn0 w w':=by
 have H : ((stringslite_HasPrefix.f a0 a1).bind fun t452 => (if t452 = true then (if 0 ≤ (a1.size : Int) then (if (a1.size : Int) ≤ (a0.size : Int) then (some (a0.extract ((a1.size : Int) : Int).toNat a0.size,true)) else (none)) else (none)) else (some (a0,false)))) = some (r1,r2):=h
 clear h
 replace H:=Option.bind_eq_some_iff.mp H
 obtain ⟨t452,A30,H⟩:=H
 replace H : (if t452 = true then (if 0 ≤ (a1.size : Int) then (if (a1.size : Int) ≤ (a0.size : Int) then (some (a0.extract ((a1.size : Int) : Int).toNat a0.size,true)) else (none)) else (none)) else (some (a0,false))) = some (r1,r2):=H
 have A3:=Aside0.mk A30
 clear A30
 by_cases c4 : t452 = true
 rotate_left
 ·replace c4:=Bool.eq_false_iff.mpr c4
  subst c4
  have H1 : (some (a0,false)) = some (r1,r2):=by rw [if_neg (show ¬ (false = true) by decide)] at H;exact H
  clear H;have H:=H1;clear H1
  simp only [Option.some.injEq,Prod.mk.injEq] at H
  obtain ⟨rfl,rfl⟩:=H
  go_enter Tryd.func73,Tryd.ntmps73
  go_wp2_with (first|((with_reducible refine gate_callee (f:=80) rfl ?_);refine goesL_ (some 8) rfl rfl Tryd.func80 (by kernel_rfl) rfl #[.string a0,.string a1] rfl (by (try simp only [List.map_toArray,List.map_cons,List.map_nil]);first|done|rfl|(simp only [List.length_drop,List.length_take];rfl)) ?_;(with_reducible refine (stringslite_HasPrefix.calls a0 a1 false _ A3.out).mono ?_);rintro e w' ⟨rfl,⟨nd,rfl⟩⟩;refine ⟨_,rfl,?_⟩))
  go_ret2
  exact ⟨by first|rfl|(simp;done)|(simp [*];done),by repeat (first|exact Drawn0.refl _|apply Drawn0.step)⟩
 subst c4
 have H1 : (if 0 ≤ (a1.size : Int) then (if (a1.size : Int) ≤ (a0.size : Int) then (some (a0.extract ((a1.size : Int) : Int).toNat a0.size,true)) else (none)) else (none)) = some (r1,r2):=by rw [if_pos rfl] at H;exact H
 clear H;have H:=H1;clear H1
 by_cases c5 : 0 ≤ (a1.size : Int)
 rotate_left
 ·rw [if_neg c5] at H
  exact absurd H (by simp)
 rw [if_pos c5] at H
 have c5b0:=eq_true c5
 have c5b1 : decide (0 ≤ (a1.size : Int)) = true:=decide_eq_true c5
 clear c5
 by_cases c6 : (a1.size : Int) ≤ (a0.size : Int)
 rotate_left
 ·rw [if_neg c6] at H
  exact absurd H (by simp)
 rw [if_pos c6] at H
 have c6b0:=eq_true c6
 have c6b1 : decide ((a1.size : Int) ≤ (a0.size : Int)) = true:=decide_eq_true c6
 clear c6
 simp only [Option.some.injEq,Prod.mk.injEq] at H
 obtain ⟨rfl,rfl⟩:=H
 go_enter Tryd.func73,Tryd.ntmps73
 go_wp2_with (first|((with_reducible refine gate_callee (f:=80) rfl ?_);refine goesL_ (some 8) rfl rfl Tryd.func80 (by kernel_rfl) rfl #[.string a0,.string a1] rfl (by (try simp only [List.map_toArray,List.map_cons,List.map_nil]);first|done|rfl|(simp only [List.length_drop,List.length_take];rfl)) ?_;(with_reducible refine (stringslite_HasPrefix.calls a0 a1 true _ A3.out).mono ?_);rintro e w' ⟨rfl,⟨nd,rfl⟩⟩;refine ⟨_,rfl,?_⟩))
 go_ret2
 exact ⟨by first|rfl|(simp;done)|(simp [*];done),by repeat (first|exact Drawn0.refl _|apply Drawn0.step)⟩
end Go.Proofs.YtniolbolfclhkaaDoor.Q
namespace Go.Proofs.YtniolbolfclhkaaDoor.Q
open Go.RowKit Go.Proofs.YtniolbolfclhkaaDoorW.PrintWords Go.Proofs.YtniolbolfclhkaaDoorW.PrintLast Go.Proofs.YtniolbolfclhkaaDoorW.PrintMore
attribute [local go_sem] max2_int min2_int max_two min_two max_three min_three max_four min_four   -- for this text's walks alone
set_option linter.unusedVariables false
set_option linter.unusedSimpArgs false
def strings_CutPrefix.f (a0 : ByteArray) (a1 : ByteArray) : Option (ByteArray × Bool) := (stringslite_CutPrefix.f a0 a1).bind fun bt453 => (some (bt453.1, bt453.2))
set_option maxHeartbeats 8000000 in
set_option maxRecDepth 100000 in
theorem strings_CutPrefix.calls (a0 : ByteArray) (a1 : ByteArray) (r1 : ByteArray) (r2 : Bool) (w : World) (h : strings_CutPrefix.f a0 a1 = some (r1, r2)) :
  Calls Tryd.prog 67 #[.string a0,.string a1] w fun e w' => e = .returned (.tuple #[.string r1,.bool r2]) ∧ Drawn0 w w':=by
 have H : ((stringslite_CutPrefix.f a0 a1).bind fun bt453 => (some (bt453.1,bt453.2))) = some (r1,r2):=h
 clear h
 replace H:=Option.bind_eq_some_iff.mp H
 obtain ⟨⟨t453,t454⟩,A30,H⟩:=H
 replace H : (some (t453,t454)) = some (r1,r2):=H
 have A3:=Aside0.mk A30
 clear A30
 simp only [Option.some.injEq,Prod.mk.injEq] at H
 obtain ⟨rfl,rfl⟩:=H
 go_enter Tryd.func67,Tryd.ntmps67
 go_wp2_with (first|((with_reducible refine gate_callee (f:=73) rfl ?_);refine goesL_ (some 8) rfl rfl Tryd.func73 (by kernel_rfl) rfl #[.string a0,.string a1] rfl (by (try simp only [List.map_toArray,List.map_cons,List.map_nil]);first|done|rfl|(simp only [List.length_drop,List.length_take];rfl)) ?_;(with_reducible refine (stringslite_CutPrefix.calls a0 a1 t453 t454 _ A3.out).mono ?_);rintro e w' ⟨rfl,⟨nd,rfl⟩⟩;refine ⟨_,rfl,?_⟩))
 go_ret2
 exact ⟨by first|rfl|(simp;done)|(simp [*];done),by repeat (first|exact Drawn0.refl _|apply Drawn0.step)⟩
end Go.Proofs.YtniolbolfclhkaaDoor.Q
namespace Go.Proofs
open Go.Shelf
def Tryd.lays170_ren : Go.Shelf.Ren := ⟨fun | 170 => 58 | n => n, fun | 70 => 95 | 3 => 3 | 0 => 0 | 72 => 97 | 37 => 51 | 5 => 5 | n => n, fun | n => n⟩
theorem Tryd.lays170 : Go.Proofs.Lays.n170 Tryd.prog Tryd.lays170_ren := {
  mixed := by kernel_rfl
  f170 := Tryd.func58.trans (congrArg some (by kernel_rfl))
  t0 := Tryd.underlying0
  a0 := Tryd.isAgg0
  z0 := Tryd.sizeOf0
  v0 := Tryd.zeroValue0
  t3 := Tryd.underlying3
  a3 := Tryd.isAgg3
  z3 := Tryd.sizeOf3
  v3 := Tryd.zeroValue3
  t37 := Tryd.underlying51
  a37 := Tryd.isAgg51
  z37 := Tryd.sizeOf51
  v37 := Tryd.zeroValue51
  t70 := Tryd.underlying95
  a70 := Tryd.isAgg95
  z70 := Tryd.sizeOf95
  v70 := Tryd.zeroValue95
  t72 := Tryd.underlying97
  a72 := Tryd.isAgg97
  z72 := Tryd.sizeOf97
  v72 := Tryd.zeroValue97 }
open Go.RowKit in
theorem Tryd.Builder_Len (B b : Nat) (bs : List Value) (w : World) (h : Lib.IsBuilder 97 5 B b bs w) :
    Calls Tryd.prog 58 #[.pointer (some ⟨b, 0, none⟩)] w fun e w' => e = .returned (.int .i64 bs.length) ∧ w' = w := Any.Builder_Len Tryd.lays170 B b bs w h
def Tryd.lays169_ren : Go.Shelf.Ren := ⟨fun | 169 => 59 | n => n, fun | 70 => 95 | 9 => 9 | 0 => 0 | 72 => 97 | 37 => 51 | 127 => 115 | 3 => 3 | 5 => 5 | n => n, fun | n => n⟩
theorem Tryd.lays169 : Go.Proofs.Lays.n169 Tryd.prog Tryd.lays169_ren := {
  mixed := by kernel_rfl
  f169 := Tryd.func59.trans (congrArg some (by kernel_rfl))
  t0 := Tryd.underlying0
  a0 := Tryd.isAgg0
  z0 := Tryd.sizeOf0
  v0 := Tryd.zeroValue0
  t3 := Tryd.underlying3
  a3 := Tryd.isAgg3
  z3 := Tryd.sizeOf3
  v3 := Tryd.zeroValue3
  t9 := Tryd.underlying9
  a9 := Tryd.isAgg9
  z9 := Tryd.sizeOf9
  v9 := Tryd.zeroValue9
  t37 := Tryd.underlying51
  a37 := Tryd.isAgg51
  z37 := Tryd.sizeOf51
  v37 := Tryd.zeroValue51
  t70 := Tryd.underlying95
  a70 := Tryd.isAgg95
  z70 := Tryd.sizeOf95
  v70 := Tryd.zeroValue95
  t72 := Tryd.underlying97
  a72 := Tryd.isAgg97
  z72 := Tryd.sizeOf97
  v72 := Tryd.zeroValue97
  t127 := Tryd.underlying115
  a127 := Tryd.isAgg115
  z127 := Tryd.sizeOf115
  v127 := Tryd.zeroValue115 }
theorem Tryd.Builder_Extra_169 : Builder.Extra Tryd.prog Tryd.lays169_ren := {
  sizeBuilder := by kernel_rfl
  liesBuilder := by kernel_rfl
  t5 := Tryd.underlying5
  a5 := Tryd.isAgg5
  z5 := Tryd.sizeOf5
  v5 := Tryd.zeroValue5
  infoByte := by kernel_rfl
  cellsByte := by kernel_rfl
  sizeByte := by kernel_rfl
  neB5 := by decide }
open Go.RowKit in
theorem Tryd.Builder_String_any (B b : Nat) (l : List UInt8) (w : World) (h : Lib.IsBuilder 97 5 B b (Lib.byteCells l) w) (hBw : B ≤ w.heap.size) :
    Calls Tryd.prog 59 #[.pointer (some ⟨b, 0, none⟩)] w fun e w' => e = .returned (.string ⟨l.toArray⟩) ∧ Below B w w' := Any.Builder_String_any Tryd.lays169 Tryd.Builder_Extra_169 B b l w h hBw
def Tryd.lays210_ren : Go.Shelf.Ren := ⟨fun | 210 => 73 | 206 => 80 | n => n, fun | 9 => 9 | 4 => 4 | 3 => 3 | n => n, fun | n => n⟩
theorem Tryd.lays210 : Go.Proofs.Lays.n210 Tryd.prog Tryd.lays210_ren := {
  mixed := by kernel_rfl
  f206 := Tryd.func80.trans (congrArg some (by kernel_rfl))
  f210 := Tryd.func73.trans (congrArg some (by kernel_rfl))
  t3 := Tryd.underlying3
  a3 := Tryd.isAgg3
  z3 := Tryd.sizeOf3
  v3 := Tryd.zeroValue3
  t4 := Tryd.underlying4
  a4 := Tryd.isAgg4
  z4 := Tryd.sizeOf4
  v4 := Tryd.zeroValue4
  t9 := Tryd.underlying9
  a9 := Tryd.isAgg9
  z9 := Tryd.sizeOf9
  v9 := Tryd.zeroValue9 }
open Go.RowKit in
theorem Tryd.stringslite_CutPrefix (s p : ByteArray) (w : World) :
    Calls Tryd.prog 73 #[.string s, .string p] w fun e w' => e = .returned (.tuple #[.string ⟨(Lib.trimPrefix s.data.toList p.data.toList).toArray⟩, .bool (Lib.hasPrefix s.data.toList p.data.toList)]) ∧ w' = w := Any.stringslite_CutPrefix Tryd.lays210 s p w
def Tryd.lays103_ren : Go.Shelf.Ren := ⟨fun | 103 => 67 | 210 => 73 | 206 => 80 | n => n, fun | 9 => 9 | 4 => 4 | 24 => 111 | 3 => 3 | n => n, fun | n => n⟩
theorem Tryd.lays103 : Go.Proofs.Lays.n103 Tryd.prog Tryd.lays103_ren := {
  mixed := by kernel_rfl
  f103 := Tryd.func67.trans (congrArg some (by kernel_rfl))
  f206 := Tryd.func80.trans (congrArg some (by kernel_rfl))
  f210 := Tryd.func73.trans (congrArg some (by kernel_rfl))
  t3 := Tryd.underlying3
  a3 := Tryd.isAgg3
  z3 := Tryd.sizeOf3
  v3 := Tryd.zeroValue3
  t4 := Tryd.underlying4
  a4 := Tryd.isAgg4
  z4 := Tryd.sizeOf4
  v4 := Tryd.zeroValue4
  t9 := Tryd.underlying9
  a9 := Tryd.isAgg9
  z9 := Tryd.sizeOf9
  v9 := Tryd.zeroValue9
  t24 := Tryd.underlying111
  a24 := Tryd.isAgg111
  z24 := Tryd.sizeOf111
  v24 := Tryd.zeroValue111 }
open Go.RowKit in
theorem Tryd.strings_CutPrefix (s p : ByteArray) (w : World) :
    Calls Tryd.prog 67 #[.string s, .string p] w fun e w' => e = .returned (.tuple #[.string ⟨(Lib.trimPrefix s.data.toList p.data.toList).toArray⟩, .bool (Lib.hasPrefix s.data.toList p.data.toList)]) ∧ w' = w := Any.strings_CutPrefix Tryd.lays103 s p w
def Tryd.lays206_ren : Go.Shelf.Ren := ⟨fun | 206 => 80 | n => n, fun | 9 => 9 | 4 => 4 | 3 => 3 | n => n, fun | n => n⟩
theorem Tryd.lays206 : Go.Proofs.Lays.n206 Tryd.prog Tryd.lays206_ren := {
  mixed := by kernel_rfl
  f206 := Tryd.func80.trans (congrArg some (by kernel_rfl))
  t3 := Tryd.underlying3
  a3 := Tryd.isAgg3
  z3 := Tryd.sizeOf3
  v3 := Tryd.zeroValue3
  t4 := Tryd.underlying4
  a4 := Tryd.isAgg4
  z4 := Tryd.sizeOf4
  v4 := Tryd.zeroValue4
  t9 := Tryd.underlying9
  a9 := Tryd.isAgg9
  z9 := Tryd.sizeOf9
  v9 := Tryd.zeroValue9 }
open Go.RowKit Go.Lib in
theorem Tryd.stringslite_HasPrefix (s p : ByteArray) (w : World) :
    Calls Tryd.prog 80 #[.string s, .string p] w fun e w' => e = .returned (.bool (Lib.hasPrefix s.data.toList p.data.toList)) ∧ w' = w := Any.stringslite_HasPrefix Tryd.lays206 s p w
def Tryd.lays221_ren : Go.Shelf.Ren := ⟨fun | 221 => 74 | 268 => 81 | 138 => 76 | 143 => 78 | 195 => 82 | 197 => 79 | 218 => 83 | 219 => 85 | 260 => 86 | 217 => 88 | 225 => 89 | 224 => 90 | 267 => 91 | 266 => 92 | 314 => 93 | n => n, fun | 9 => 9 | 3 => 3 | 31 => 68 | 4 => 4 | 0 => 0 | 105 => 122 | 21 => 21 | 5 => 5 | 46 => 110 | 119 => 129 | 139 => 132 | 138 => 131 | 146 => 134 | 51 => 133 | n => n, fun | 1 => 1 | 3 => 2 | 4 => 3 | n => n⟩
def Tryd.lays146_ren : Go.Shelf.Ren := ⟨fun | 146 => 68 | 221 => 74 | 268 => 81 | 138 => 76 | 143 => 78 | 195 => 82 | 197 => 79 | 218 => 83 | 219 => 85 | 260 => 86 | 217 => 88 | 225 => 89 | 224 => 90 | 267 => 91 | 266 => 92 | 314 => 93 | n => n, fun | 9 => 9 | 31 => 68 | 3 => 3 | 4 => 4 | 0 => 0 | 105 => 122 | 21 => 21 | 5 => 5 | 46 => 110 | 119 => 129 | 139 => 132 | 138 => 131 | 146 => 134 | 51 => 133 | n => n, fun | 1 => 1 | 3 => 2 | 4 => 3 | n => n⟩
theorem Tryd.lays146 : Go.Proofs.Lays.n146 Tryd.prog Tryd.lays146_ren := {
  mixed := by kernel_rfl
  f138 := Tryd.func76.trans (congrArg some (by kernel_rfl))
  f143 := Tryd.func78.trans (congrArg some (by kernel_rfl))
  f146 := Tryd.func68.trans (congrArg some (by kernel_rfl))
  f195 := Tryd.func82.trans (congrArg some (by kernel_rfl))
  f197 := Tryd.func79.trans (congrArg some (by kernel_rfl))
  f217 := Tryd.func88.trans (congrArg some (by kernel_rfl))
  f218 := Tryd.func83.trans (congrArg some (by kernel_rfl))
  f219 := Tryd.func85.trans (congrArg some (by kernel_rfl))
  f221 := Tryd.func74.trans (congrArg some (by kernel_rfl))
  f224 := Tryd.func90.trans (congrArg some (by kernel_rfl))
  f225 := Tryd.func89.trans (congrArg some (by kernel_rfl))
  f260 := Tryd.func86.trans (congrArg some (by kernel_rfl))
  f266 := Tryd.func92.trans (congrArg some (by kernel_rfl))
  f267 := Tryd.func91.trans (congrArg some (by kernel_rfl))
  f268 := Tryd.func81.trans (congrArg some (by kernel_rfl))
  f314 := Tryd.func93.trans (congrArg some (by kernel_rfl))
  t0 := Tryd.underlying0
  a0 := Tryd.isAgg0
  z0 := Tryd.sizeOf0
  v0 := Tryd.zeroValue0
  t3 := Tryd.underlying3
  a3 := Tryd.isAgg3
  z3 := Tryd.sizeOf3
  v3 := Tryd.zeroValue3
  t4 := Tryd.underlying4
  a4 := Tryd.isAgg4
  z4 := Tryd.sizeOf4
  v4 := Tryd.zeroValue4
  t5 := Tryd.underlying5
  a5 := Tryd.isAgg5
  z5 := Tryd.sizeOf5
  v5 := Tryd.zeroValue5
  t9 := Tryd.underlying9
  a9 := Tryd.isAgg9
  z9 := Tryd.sizeOf9
  v9 := Tryd.zeroValue9
  t21 := Tryd.underlying21
  a21 := Tryd.isAgg21
  z21 := Tryd.sizeOf21
  v21 := Tryd.zeroValue21
  t31 := Tryd.underlying68
  a31 := Tryd.isAgg68
  z31 := Tryd.sizeOf68
  v31 := Tryd.zeroValue68
  t46 := Tryd.underlying110
  a46 := Tryd.isAgg110
  z46 := Tryd.sizeOf110
  v46 := Tryd.zeroValue110
  t51 := Tryd.underlying133
  a51 := Tryd.isAgg133
  z51 := Tryd.sizeOf133
  v51 := Tryd.zeroValue133
  t105 := Tryd.underlying122
  a105 := Tryd.isAgg122
  z105 := Tryd.sizeOf122
  v105 := Tryd.zeroValue122
  t119 := Tryd.underlying129
  a119 := Tryd.isAgg129
  z119 := Tryd.sizeOf129
  t138 := Tryd.underlying131
  a138 := Tryd.isAgg131
  z138 := Tryd.sizeOf131
  v138 := Tryd.zeroValue131
  t139 := Tryd.underlying132
  a139 := Tryd.isAgg132
  z139 := Tryd.sizeOf132
  v139 := Tryd.zeroValue132
  t146 := Tryd.underlying134
  a146 := Tryd.isAgg134
  z146 := Tryd.sizeOf134
  v146 := Tryd.zeroValue134
  g1 := by kernel_rfl
  g3 := by kernel_rfl
  g4 := by kernel_rfl }
open Go.RowKit Go.Lib in
theorem Tryd.strings_Split (s sep : ByteArray) (m : Int) (w : World) (hs : s.size < 4294967281) (hm : w.cell? ⟨1, 0, none⟩ = some (.int .i64 m)) (h1 : 1 ≤ sep.size) :
    Calls Tryd.prog 68 #[.string s, .string sep] w fun e w' =>
      e = .returned (.slice (some ⟨w.heap.size, 0, none⟩) (Lib.countB s sep + 1) (Lib.countB s sep + 1)) ∧ w' = w.alloc (.cells ((Lib.splitB sep 0 (Lib.countB s sep) s).map Value.string).toArray 9) := Any.strings_Split Tryd.lays146 (by kernel_rfl) s sep m w hs hm h1
def Tryd.lays154_ren : Go.Shelf.Ren := ⟨fun | 154 => 70 | 138 => 76 | 165 => 77 | 143 => 78 | 166 => 56 | 197 => 79 | 169 => 59 | 195 => 82 | 218 => 83 | 240 => 69 | 241 => 84 | 219 => 85 | 260 => 86 | 276 => 75 | 277 => 87 | 217 => 88 | 225 => 89 | 224 => 90 | 267 => 91 | 266 => 92 | 314 => 93 | n => n, fun | 9 => 9 | 3 => 3 | 4 => 4 | 72 => 97 | 0 => 0 | 76 => 100 | 105 => 122 | 21 => 21 | 5 => 5 | 70 => 95 | 20 => 20 | 37 => 51 | 75 => 99 | 127 => 115 | 164 => 119 | 46 => 110 | 119 => 129 | 139 => 132 | 138 => 131 | 146 => 134 | 51 => 133 | 80 => 104 | n => n, fun | 1 => 1 | 3 => 2 | 4 => 3 | n => n⟩
def Tryd.lays155_ren : Go.Shelf.Ren := ⟨fun | 155 => 57 | 154 => 70 | 138 => 76 | 165 => 77 | 143 => 78 | 166 => 56 | 197 => 79 | 169 => 59 | 195 => 82 | 218 => 83 | 240 => 69 | 241 => 84 | 219 => 85 | 260 => 86 | 276 => 75 | 277 => 87 | 217 => 88 | 225 => 89 | 224 => 90 | 267 => 91 | 266 => 92 | 314 => 93 | n => n, fun | 9 => 9 | 3 => 3 | 4 => 4 | 72 => 97 | 0 => 0 | 76 => 100 | 105 => 122 | 21 => 21 | 5 => 5 | 70 => 95 | 20 => 20 | 37 => 51 | 75 => 99 | 127 => 115 | 164 => 119 | 46 => 110 | 119 => 129 | 139 => 132 | 138 => 131 | 146 => 134 | 51 => 133 | 80 => 104 | n => n, fun | 1 => 1 | 3 => 2 | 4 => 3 | n => n⟩
theorem Tryd.lays155 : Go.Proofs.Lays.n155 Tryd.prog Tryd.lays155_ren := {
  mixed := by kernel_rfl
  f138 := Tryd.func76.trans (congrArg some (by kernel_rfl))
  f143 := Tryd.func78.trans (congrArg some (by kernel_rfl))
  f154 := Tryd.func70.trans (congrArg some (by kernel_rfl))
  f155 := Tryd.func57.trans (congrArg some (by kernel_rfl))
  f165 := Tryd.func77.trans (congrArg some (by kernel_rfl))
  f166 := Tryd.func56.trans (congrArg some (by kernel_rfl))
  f169 := Tryd.func59.trans (congrArg some (by kernel_rfl))
  f195 := Tryd.func82.trans (congrArg some (by kernel_rfl))
  f197 := Tryd.func79.trans (congrArg some (by kernel_rfl))
  f217 := Tryd.func88.trans (congrArg some (by kernel_rfl))
  f218 := Tryd.func83.trans (congrArg some (by kernel_rfl))
  f219 := Tryd.func85.trans (congrArg some (by kernel_rfl))
  f224 := Tryd.func90.trans (congrArg some (by kernel_rfl))
  f225 := Tryd.func89.trans (congrArg some (by kernel_rfl))
  f240 := Tryd.func69.trans (congrArg some (by kernel_rfl))
  f241 := Tryd.func84.trans (congrArg some (by kernel_rfl))
  f260 := Tryd.func86.trans (congrArg some (by kernel_rfl))
  f266 := Tryd.func92.trans (congrArg some (by kernel_rfl))
  f267 := Tryd.func91.trans (congrArg some (by kernel_rfl))
  f276 := Tryd.func75.trans (congrArg some (by kernel_rfl))
  f277 := Tryd.func87.trans (congrArg some (by kernel_rfl))
  f314 := Tryd.func93.trans (congrArg some (by kernel_rfl))
  t0 := Tryd.underlying0
  a0 := Tryd.isAgg0
  z0 := Tryd.sizeOf0
  v0 := Tryd.zeroValue0
  t3 := Tryd.underlying3
  a3 := Tryd.isAgg3
  z3 := Tryd.sizeOf3
  v3 := Tryd.zeroValue3
  t4 := Tryd.underlying4
  a4 := Tryd.isAgg4
  z4 := Tryd.sizeOf4
  v4 := Tryd.zeroValue4
  t5 := Tryd.underlying5
  a5 := Tryd.isAgg5
  z5 := Tryd.sizeOf5
  v5 := Tryd.zeroValue5
  t9 := Tryd.underlying9
  a9 := Tryd.isAgg9
  z9 := Tryd.sizeOf9
  v9 := Tryd.zeroValue9
  t20 := Tryd.underlying20
  a20 := Tryd.isAgg20
  z20 := Tryd.sizeOf20
  v20 := Tryd.zeroValue20
  t21 := Tryd.underlying21
  a21 := Tryd.isAgg21
  z21 := Tryd.sizeOf21
  v21 := Tryd.zeroValue21
  t37 := Tryd.underlying51
  a37 := Tryd.isAgg51
  z37 := Tryd.sizeOf51
  v37 := Tryd.zeroValue51
  t46 := Tryd.underlying110
  a46 := Tryd.isAgg110
  z46 := Tryd.sizeOf110
  v46 := Tryd.zeroValue110
  t51 := Tryd.underlying133
  a51 := Tryd.isAgg133
  z51 := Tryd.sizeOf133
  v51 := Tryd.zeroValue133
  t70 := Tryd.underlying95
  a70 := Tryd.isAgg95
  z70 := Tryd.sizeOf95
  v70 := Tryd.zeroValue95
  t72 := Tryd.underlying97
  a72 := Tryd.isAgg97
  z72 := Tryd.sizeOf97
  v72 := Tryd.zeroValue97
  t75 := Tryd.underlying99
  a75 := Tryd.isAgg99
  z75 := Tryd.sizeOf99
  v75 := Tryd.zeroValue99
  t76 := Tryd.underlying100
  a76 := Tryd.isAgg100
  z76 := Tryd.sizeOf100
  v76 := Tryd.zeroValue100
  t105 := Tryd.underlying122
  a105 := Tryd.isAgg122
  z105 := Tryd.sizeOf122
  v105 := Tryd.zeroValue122
  t119 := Tryd.underlying129
  a119 := Tryd.isAgg129
  z119 := Tryd.sizeOf129
  t127 := Tryd.underlying115
  a127 := Tryd.isAgg115
  z127 := Tryd.sizeOf115
  v127 := Tryd.zeroValue115
  t138 := Tryd.underlying131
  a138 := Tryd.isAgg131
  z138 := Tryd.sizeOf131
  v138 := Tryd.zeroValue131
  t139 := Tryd.underlying132
  a139 := Tryd.isAgg132
  z139 := Tryd.sizeOf132
  v139 := Tryd.zeroValue132
  t146 := Tryd.underlying134
  a146 := Tryd.isAgg134
  z146 := Tryd.sizeOf134
  v146 := Tryd.zeroValue134
  t164 := Tryd.underlying119
  a164 := Tryd.isAgg119
  z164 := Tryd.sizeOf119
  v164 := Tryd.zeroValue119
  g1 := by kernel_rfl
  g3 := by kernel_rfl
  g4 := by kernel_rfl }
theorem Tryd.Builder_Extra_155 : Builder.Extra Tryd.prog Tryd.lays155_ren := {
  sizeBuilder := by kernel_rfl
  liesBuilder := by kernel_rfl
  t5 := Tryd.underlying5
  a5 := Tryd.isAgg5
  z5 := Tryd.sizeOf5
  v5 := Tryd.zeroValue5
  infoByte := by kernel_rfl
  cellsByte := by kernel_rfl
  sizeByte := by kernel_rfl
  neB5 := by decide }
open Go.RowKit Go.Lib in
theorem Tryd.strings_ReplaceAll (s old new : ByteArray) (m : Int) (w : World) (hs : s.size < 4294967281) (hm : w.cell? ⟨1, 0, none⟩ = some (.int .i64 m)) (h1 : 1 ≤ old.size) (hlen : s.size + Lib.countB s old * new.size ≤ 140737488355328) :
    Calls Tryd.prog 57 #[.string s, .string old, .string new] w fun e w' =>
      e = .returned (.string ⟨(Lib.replaceAll s.data.toList old.data.toList new.data.toList).toArray⟩) ∧ Below w.heap.size w w' := Any.strings_ReplaceAll Tryd.lays155 Tryd.Builder_Extra_155 s old new m w hs hm h1 hlen
def Tryd.laysM146_ren : Go.Shelf.Ren := ⟨fun | 146 => 68 | 221 => 74 | 268 => 81 | 138 => 76 | 143 => 78 | 195 => 82 | 197 => 79 | 218 => 83 | 219 => 85 | 260 => 86 | 217 => 88 | 225 => 89 | 224 => 90 | 267 => 91 | 266 => 92 | 314 => 93 | n => n, fun | 9 => 9 | 31 => 68 | 3 => 3 | 4 => 4 | 0 => 0 | 105 => 122 | 21 => 21 | 5 => 5 | 46 => 110 | 119 => 129 | 139 => 132 | 138 => 131 | 146 => 134 | 51 => 133 | n => n, fun | 1 => 1 | 3 => 2 | 4 => 3 | n => n⟩
theorem Tryd.laysM146 : Go.Proofs.LaysM.n146 Tryd.prog Tryd.laysM146_ren := {
  mixed := by kernel_rfl
  f138 := Tryd.func76.trans (congrArg some (by kernel_rfl))
  f143 := Tryd.func78.trans (congrArg some (by kernel_rfl))
  f146 := Tryd.func68.trans (congrArg some (by kernel_rfl))
  f195 := Tryd.func82.trans (congrArg some (by kernel_rfl))
  f197 := Tryd.func79.trans (congrArg some (by kernel_rfl))
  f217 := Tryd.func88.trans (congrArg some (by kernel_rfl))
  f218 := Tryd.func83.trans (congrArg some (by kernel_rfl))
  f219 := Tryd.func85.trans (congrArg some (by kernel_rfl))
  f221 := Tryd.func74.trans (congrArg some (by kernel_rfl))
  f224 := Tryd.func90.trans (congrArg some (by kernel_rfl))
  f225 := Tryd.func89.trans (congrArg some (by kernel_rfl))
  f260 := Tryd.func86.trans (congrArg some (by kernel_rfl))
  f266 := Tryd.func92.trans (congrArg some (by kernel_rfl))
  f267 := Tryd.func91.trans (congrArg some (by kernel_rfl))
  f268 := Tryd.func81.trans (congrArg some (by kernel_rfl))
  f314 := Tryd.func93.trans (congrArg some (by kernel_rfl))
  t0 := Tryd.underlying0
  a0 := Tryd.isAgg0
  z0 := Tryd.sizeOf0
  v0 := Tryd.zeroValue0
  t3 := Tryd.underlying3
  a3 := Tryd.isAgg3
  z3 := Tryd.sizeOf3
  v3 := Tryd.zeroValue3
  t4 := Tryd.underlying4
  a4 := Tryd.isAgg4
  z4 := Tryd.sizeOf4
  v4 := Tryd.zeroValue4
  t5 := Tryd.underlying5
  a5 := Tryd.isAgg5
  z5 := Tryd.sizeOf5
  v5 := Tryd.zeroValue5
  t9 := Tryd.underlying9
  a9 := Tryd.isAgg9
  z9 := Tryd.sizeOf9
  v9 := Tryd.zeroValue9
  t21 := Tryd.underlying21
  a21 := Tryd.isAgg21
  z21 := Tryd.sizeOf21
  v21 := Tryd.zeroValue21
  t31 := Tryd.underlying68
  a31 := Tryd.isAgg68
  z31 := Tryd.sizeOf68
  v31 := Tryd.zeroValue68
  t46 := Tryd.underlying110
  a46 := Tryd.isAgg110
  z46 := Tryd.sizeOf110
  v46 := Tryd.zeroValue110
  t51 := Tryd.underlying133
  a51 := Tryd.isAgg133
  z51 := Tryd.sizeOf133
  v51 := Tryd.zeroValue133
  t105 := Tryd.underlying122
  a105 := Tryd.isAgg122
  z105 := Tryd.sizeOf122
  v105 := Tryd.zeroValue122
  t119 := Tryd.underlying129
  a119 := Tryd.isAgg129
  z119 := Tryd.sizeOf129
  t138 := Tryd.underlying131
  a138 := Tryd.isAgg131
  z138 := Tryd.sizeOf131
  v138 := Tryd.zeroValue131
  t139 := Tryd.underlying132
  a139 := Tryd.isAgg132
  z139 := Tryd.sizeOf132
  v139 := Tryd.zeroValue132
  t146 := Tryd.underlying134
  a146 := Tryd.isAgg134
  z146 := Tryd.sizeOf134
  v146 := Tryd.zeroValue134
  g1 := by kernel_rfl
  g3 := by kernel_rfl
  g4 := by kernel_rfl
  i0 := by kernel_rfl
  i3 := by kernel_rfl
  i4 := by kernel_rfl
  i5 := by kernel_rfl
  i9 := by kernel_rfl
  i21 := by kernel_rfl
  i31 := by kernel_rfl
  i46 := by kernel_rfl
  i51 := by kernel_rfl
  i105 := by kernel_rfl
  i138 := by kernel_rfl
  i139 := by kernel_rfl
  i146 := by kernel_rfl
  m1 := by kernel_rfl
  s1_3 := fun w h => Go.Proofs.cell_of_shapedOpen_int (zero := #[.int .i64 0]) (t := 3) h (of_decide_eq_true (by kernel_rfl)) (by kernel_rfl) rfl (by kernel_rfl) (by kernel_rfl) Tryd.underlying3
  m3 := by kernel_rfl
  m4 := by kernel_rfl }
end Go.Proofs
namespace Go.Proofs.YtniolbolfclhkaaDoor.Q
open Go.RowKit Go.Proofs.YtniolbolfclhkaaDoorW.PrintWords Go.Proofs.YtniolbolfclhkaaDoorW.PrintLast
set_option linter.unusedVariables false
set_option linter.unusedSimpArgs false
structure Glob (w : World) : Prop where
  maxLen : ∃ m : Int, w.cell? ⟨1, 0, none⟩ = some (.int .i64 m)
  letterQ : w.cell? ⟨0, 1, none⟩ = some (.int .u8 81)
  letterL : w.cell? ⟨0, 2, none⟩ = some (.int .u8 76)
  letterO : w.cell? ⟨0, 3, none⟩ = some (.int .u8 79)
  letterB : w.cell? ⟨0, 4, none⟩ = some (.int .u8 66)
theorem Glob.below {w W : World} (h : Glob w) (hb : Below w.heap.size w W) : Glob W := by
  obtain ⟨m, hm⟩ := h.maxLen
  exact ⟨⟨m, pw_cell_below hb hm⟩, pw_cell_below hb h.letterQ, pw_cell_below hb h.letterL, pw_cell_below hb h.letterO, pw_cell_below hb h.letterB⟩
def strings_Split.f (a0 a1 : ByteArray) : Option (List ByteArray) :=
  if a0.size < 4294967281 ∧ 1 ≤ a1.size then some (Lib.splitB a1 0 (Lib.countB a0 a1) a0) else none
theorem strings_Split.calls (a0 : ByteArray) (a1 : ByteArray) (r : List ByteArray) (w : World) (h : strings_Split.f a0 a1 = some r) (hG : Glob w) :
    Calls Tryd.prog 68 #[.string a0, .string a1] w fun e w' => ∃ v0_ : Value, e = .returned (v0_) ∧ Kd.R Kd.string 9 w' w.heap.size (fun _ => True) v0_ r ∧ Below w.heap.size w w' := by
  unfold strings_Split.f at h
  split at h
  · rename_i hc
    obtain rfl := Option.some.inj h
    obtain ⟨m, hm⟩ := hG.maxLen
    refine (Tryd.strings_Split a0 a1 m w hc.1 hm hc.2).mono ?_
    rintro e w' ⟨rfl, rfl⟩
    have hl : (Lib.splitB a1 0 (Lib.countB a0 a1) a0).length = Lib.countB a0 a1 + 1 := Lib.splitB_all a1 hc.2 0 _ a0 rfl
    have hle := Lib.countB_le a1 hc.2 a0.size a0 (Nat.le_refl _)
    refine ⟨_, rfl, ?_, (Below.refl _ _).alloc (Nat.le_refl _) _⟩
    have ho := World.ownsRow_lit (base := w.heap.size) (e := 9) (size := 1) w ((Lib.splitB a1 0 (Lib.countB a0 a1) a0).map Value.string).toArray (Lib.countB a0 a1 + 1) (Nat.le_refl _) (by unfold maxLen; omega) (by simp [hl])
    refine Kd.R_of_own (h1 := fun _ => rfl) (ok := fun _ => True) ?_ (fun _ _ => trivial)
    rw [hl]
    exact ho
  · cases h
end Go.Proofs.YtniolbolfclhkaaDoor.Q
namespace Go.Proofs.YtniolbolfclhkaaDoor.Q
open Go.RowKit Go.Proofs.YtniolbolfclhkaaDoorW.PrintWords Go.Proofs.YtniolbolfclhkaaDoorW.PrintLast Go.Proofs.YtniolbolfclhkaaDoorW.PrintMore
attribute [local go_sem] max2_int min2_int max_two min_two max_three min_three max_four min_four   -- for this text's walks alone
set_option linter.unusedVariables false
set_option linter.unusedSimpArgs false
mutual
def label_Split.j0 : Nat → ByteArray → Bool → Option (List ByteArray × Int)
|0,_,_ => none
|k + 1,x4,x22 => if x22 = true then (some (([] : List ByteArray),41)) else ((strings_Split.f x4 (⟨#[47]⟩ : ByteArray)).bind fun t457 => (if (t457.length : Int) > 8 then (some (([] : List ByteArray),41)) else (label_Split.l0 k t457 t457 (t457.length : Int) 0)))
def label_Split.l0 : Nat → List ByteArray → List ByteArray → Int → Int → Option (List ByteArray × Int)
|0,_,_,_,_ => none
|k + 1,x6,x28,x29,x30 => if x30 < x29 then (if 0 ≤ x30 then (if x30 < (x28.length : Int) then ((label_Name.f (rdOf ByteArray.empty x28 x30)).bind fun t461 => (if t461 = true then (label_Split.l0 k x6 x28 x29 (wrap64 (x30 + 1))) else (some (([] : List ByteArray),41)))) else (none)) else (none)) else (some (x6,0))
end
def label_Split.f (k : Nat) (a0 : ByteArray) : Option (List ByteArray × Int) := if a0.toList = ([47] : List UInt8) then (some (([] : List ByteArray), 0)) else ((strings_CutPrefix.f a0 (⟨#[47]⟩ : ByteArray)).bind fun bt455 => (if bt455.2 = true then (label_Split.j0 k bt455.1 (decide ((a0.size : Int) > 64))) else (label_Split.j0 k bt455.1 true)))
theorem label_Split.mono_l : ∀ k, (∀ y0 y1, LeO (label_Split.j0 k y0 y1) (label_Split.j0 (k + 1) y0 y1)) ∧ (∀ y0 y1 y2 y3, LeO (label_Split.l0 k y0 y1 y2 y3) (label_Split.l0 (k + 1) y0 y1 y2 y3))
|0 => ⟨fun _ _ r h => by simp [label_Split.j0] at h,fun _ _ _ _ r h => by simp [label_Split.l0] at h⟩
|k + 1 => by
  obtain ⟨ih0,ih1⟩:=label_Split.mono_l k
  refine ⟨?_,?_⟩
  ·intro y0 y1
   unfold label_Split.j0
   repeat' first
  |(with_reducible exact ih0 _ _)
  |(with_reducible exact ih1 _ _ _ _)
  |(with_reducible exact LeO.refl _)
  |(with_reducible exact LeO.none _)
  |(with_reducible refine LeO.ite ?_ ?_)
  |(with_reducible refine LeO.bind ?_ (fun _ => ?_))
  |exact ih0 _ _
  |exact ih1 _ _ _ _
  |exact LeO.none _
  |refine LeO.ite ?_ ?_
  |refine LeO.bind ?_ (fun _ => ?_)
  ·intro y0 y1 y2 y3
   unfold label_Split.l0
   repeat' first
  |(with_reducible exact ih0 _ _)
  |(with_reducible exact ih1 _ _ _ _)
  |(with_reducible exact LeO.refl _)
  |(with_reducible exact LeO.none _)
  |(with_reducible refine LeO.ite ?_ ?_)
  |(with_reducible refine LeO.bind ?_ (fun _ => ?_))
  |exact ih0 _ _
  |exact ih1 _ _ _ _
  |exact LeO.none _
  |refine LeO.ite ?_ ?_
  |refine LeO.bind ?_ (fun _ => ?_)
theorem label_Split.mono : ∀ a0 k, LeO (label_Split.f k a0) (label_Split.f (k + 1) a0) := by
 intro a0 k
 obtain ⟨ih0,ih1⟩:=label_Split.mono_l k
 unfold label_Split.f
 repeat' first
  |(with_reducible exact ih0 _ _)
  |(with_reducible exact ih1 _ _ _ _)
  |(with_reducible exact LeO.refl _)
  |(with_reducible exact LeO.none _)
  |(with_reducible refine LeO.ite ?_ ?_)
  |(with_reducible refine LeO.bind ?_ (fun _ => ?_))
  |exact ih0 _ _
  |exact ih1 _ _ _ _
  |exact LeO.none _
  |refine LeO.ite ?_ ?_
  |refine LeO.bind ?_ (fun _ => ?_)
set_option maxHeartbeats 8000000 in
set_option maxRecDepth 100000 in
theorem label_Split.calls (k : Nat) (a0 : ByteArray) (r1 : List ByteArray) (r2 : Int) (w : World) (h : label_Split.f k a0 = some (r1, r2)) (hG : Glob w) :
  Calls Tryd.prog 54 #[.string a0] w fun e w' => ∃ v0_ : Value,e = .returned (.tuple #[v0_,.int .i64 r2]) ∧ Kd.R Kd.string 9 w' w.heap.size (fun _ => True) v0_ r1 ∧ Below w.heap.size w w':=by
 have HB:=Aside0.mk (Below.refl w.heap.size w)
 have H : (if a0.toList = ([47] : List UInt8) then (some (([] : List ByteArray),0)) else ((strings_CutPrefix.f a0 (⟨#[47]⟩ : ByteArray)).bind fun bt455 => (if bt455.2 = true then (label_Split.j0 k bt455.1 (decide ((a0.size : Int) > 64))) else (label_Split.j0 k bt455.1 true)))) = some (r1,r2):=h
 clear h
 by_cases c2 : a0.toList = ([47] : List UInt8)
 ·rw [if_pos c2] at H
  have c2b0 : (a0.toList == ([47] : List UInt8)) = true:=beq_iff_eq.mpr c2
  have c2b1 : (a0.toList != ([47] : List UInt8)) = false:=bne_eq_false_iff_eq.mpr c2
  clear c2
  simp only [Option.some.injEq,Prod.mk.injEq] at H
  obtain ⟨rfl,rfl⟩:=H
  go_enter Tryd.func54,Tryd.ntmps54
  go_wp2
  go_ret2
  exact ⟨_,by first|rfl|(simp [errW_none,errW_some] <;> rfl)|(simp [*,errW_none,errW_some] <;> rfl),by first|exact Kd.R_nil _ _ _ _ _|exact Kd.N_nil _ _ _ _ _|exact Kd.V_nil _ _ _ _ _|exact Kd.Q_nil _ _ _ _ _|exact Kd.S_nil _ _ _ _ _,by repeat (first|(with_reducible first|exact HB.out|apply below_alloc|apply pw_below_drewN|apply below_drew1)|exact HB.out)⟩
 rw [if_neg c2] at H
 have c2b0 : (a0.toList == ([47] : List UInt8)) = false:=beq_eq_false_iff_ne.mpr c2
 have c2b1 : (a0.toList != ([47] : List UInt8)) = true:=bne_iff_ne.mpr c2
 replace H:=Option.bind_eq_some_iff.mp H
 obtain ⟨⟨t455,t456⟩,A30,H⟩:=H
 replace H : (if t456 = true then (label_Split.j0 k t455 (decide ((a0.size : Int) > 64))) else (label_Split.j0 k t455 true)) = some (r1,r2):=H
 have A3:=Aside0.mk A30
 clear A30
 have HC4:=Aside0.mk H
 clear H
 go_enter Tryd.func54,Tryd.ntmps54
 go_upto_region 4 with (first|((with_reducible refine gate_callee (f:=67) rfl ?_);refine goesL_ (some 13) rfl rfl Tryd.func67 (by kernel_rfl) rfl #[.string a0,.string (⟨#[47]⟩ : ByteArray)] rfl (by (try simp only [List.map_toArray,List.map_cons,List.map_nil]);first|done|rfl|(simp only [List.length_drop,List.length_take];rfl)) ?_;(with_reducible refine (strings_CutPrefix.calls a0 (⟨#[47]⟩ : ByteArray) t455 t456 _ A3.out).mono ?_);rintro e w' ⟨rfl,⟨nd,rfl⟩⟩;refine ⟨_,rfl,?_⟩))
 (try simp only [Act.put,List.setIfInBounds_toArray,List.set_cons_zero,List.set_cons_succ])
 go_cut [22] (fun v22 wc => ∃ (kq : Nat) (x22_3 : Bool),v22 = .bool x22_3 ∧ Aside0 (label_Split.j0 kq t455 x22_3 = some (r1,r2)) ∧ Aside0 (kq ≤ k) ∧ Aside0 (Below w.heap.size w wc))
 case first =>
  have H:=HC4.out
  clear HC4
  by_cases c5 : t456 = true
  ·subst c5
   have H1 : (label_Split.j0 k t455 (decide ((a0.size : Int) > 64))) = some (r1,r2):=by rw [if_pos rfl] at H;exact H
   clear H;have H:=H1;clear H1
   have H':=Aside0.mk H
   clear H
   go_wp2
   go_meet
   case rel => exact ⟨_,(decide ((a0.size : Int) > 64)),(by first|rfl|(simp;done)|(simp [*];done)|(simp;rw [Bool.eq_iff_iff];simp;done)|(rw [Bool.eq_iff_iff];simp;done)),H',⟨by first|omega|exact Nat.le_refl _⟩,⟨by repeat (first|(with_reducible first|exact HB.out|apply below_alloc|apply pw_below_drewN|apply below_drew1)|exact HB.out)⟩⟩
  replace c5:=Bool.eq_false_iff.mpr c5
  subst c5
  have H1 : (label_Split.j0 k t455 true) = some (r1,r2):=by rw [if_neg (show ¬ (false = true) by decide)] at H;exact H
  clear H;have H:=H1;clear H1
  have H':=Aside0.mk H
  clear H
  go_wp2
  go_meet
  case rel => exact ⟨_,(true),(by first|rfl|(simp;done)|(simp [*];done)|(simp;rw [Bool.eq_iff_iff];simp;done)|(rw [Bool.eq_iff_iff];simp;done)),H',⟨by first|omega|exact Nat.le_refl _⟩,⟨by repeat (first|(with_reducible first|exact HB.out|apply below_alloc|apply pw_below_drewN|apply below_drew1)|exact HB.out)⟩⟩
 case rest =>
  clear HC4;(try clear c2);(try clear c2b0);(try clear c2b1);(try clear p2);(try clear c5)
  obtain ⟨kq,x22_3,rfl,HA,HJ3,HB⟩:=hcut
  cases kq with
 |zero => exact absurd HA.out (by simp [label_Split.j0])
 |succ kj3 =>
   have H:=HA.out
   clear HA
   simp only [label_Split.j0] at H
   by_cases c6 : x22_3 = true
   ·subst c6
    have H1 : (some (([] : List ByteArray),41)) = some (r1,r2):=by rw [if_pos rfl] at H;exact H
    clear H;have H:=H1;clear H1
    simp only [Option.some.injEq,Prod.mk.injEq] at H
    obtain ⟨rfl,rfl⟩:=H
    go_wp2
    go_ret2
    exact ⟨_,by first|rfl|(simp [errW_none,errW_some] <;> rfl)|(simp [*,errW_none,errW_some] <;> rfl),by first|exact Kd.R_nil _ _ _ _ _|exact Kd.N_nil _ _ _ _ _|exact Kd.V_nil _ _ _ _ _|exact Kd.Q_nil _ _ _ _ _|exact Kd.S_nil _ _ _ _ _,by repeat (first|(with_reducible first|exact HB.out|apply below_alloc|apply pw_below_drewN|apply below_drew1)|exact HB.out)⟩
   replace c6:=Bool.eq_false_iff.mpr c6
   subst c6
   have H1 : ((strings_Split.f t455 (⟨#[47]⟩ : ByteArray)).bind fun t457 => (if (t457.length : Int) > 8 then (some (([] : List ByteArray),41)) else (label_Split.l0 kj3 t457 t457 (t457.length : Int) 0))) = some (r1,r2):=by rw [if_neg (show ¬ (false = true) by decide)] at H;exact H
   clear H;have H:=H1;clear H1
   replace H:=Option.bind_eq_some_iff.mp H
   obtain ⟨t457,A70,H⟩:=H
   replace H : (if (t457.length : Int) > 8 then (some (([] : List ByteArray),41)) else (label_Split.l0 kj3 t457 t457 (t457.length : Int) 0)) = some (r1,r2):=H
   have A7:=Aside0.mk A70
   clear A70
   by_cases c8 : (t457.length : Int) > 8
   ·rw [if_pos c8] at H
    have c8b0 : decide (8 < (t457.length : Int)) = true:=decide_eq_true c8
    have c8b1 : decide (8 < t457.length) = true:=decide_eq_true (by omega)
    clear c8
    simp only [Option.some.injEq,Prod.mk.injEq] at H
    obtain ⟨rfl,rfl⟩:=H
    go_wp2_with (first|((with_reducible refine gate_callee (f:=68) rfl ?_);refine goesL_ (some 24) rfl rfl Tryd.func68 (by kernel_rfl) rfl #[.string t455,.string (⟨#[47]⟩ : ByteArray)] rfl (by (try simp only [List.map_toArray,List.map_cons,List.map_nil]);first|done|rfl|(simp only [List.length_drop,List.length_take];rfl)) ?_;(with_reducible refine (strings_Split.calls t455 (⟨#[47]⟩ : ByteArray) t457 _ A7.out (Glob.below hG (by repeat (first|(with_reducible first|exact HB.out|apply below_alloc|apply pw_below_drewN|apply below_drew1)|exact HB.out)))).mono ?_);rintro e w9 ⟨v458,rfl,ho0,hb⟩;refine ⟨_,rfl,?_⟩;have n0_:=Aside0.mk (Kd.R_lower ho0 (below_size (by repeat (first|(with_reducible first|exact HB.out|apply below_alloc|apply pw_below_drewN|apply below_drew1)|exact HB.out))));have n1_:=Aside0.mk (below_step (by repeat (first|(with_reducible first|exact HB.out|apply below_alloc|apply pw_below_drewN|apply below_drew1)|exact HB.out)) hb);clear HB;have HO459:=n0_;have HB:=n1_;clear n0_ n1_;(try clear hb);(try clear hb2);(try clear hk);(try clear hi);(try clear ho0);obtain ⟨Ao10,co10,eo10⟩:=Kd.R_slice HO459.out;subst eo10))
    go_ret2
    exact ⟨_,by first|rfl|(simp [errW_none,errW_some] <;> rfl)|(simp [*,errW_none,errW_some] <;> rfl),by first|exact Kd.R_nil _ _ _ _ _|exact Kd.N_nil _ _ _ _ _|exact Kd.V_nil _ _ _ _ _|exact Kd.Q_nil _ _ _ _ _|exact Kd.S_nil _ _ _ _ _,by repeat (first|(with_reducible first|exact HB.out|apply below_alloc|apply pw_below_drewN|apply below_drew1)|exact HB.out)⟩
   rw [if_neg c8] at H
   have c8b0 : decide (8 < (t457.length : Int)) = false:=decide_eq_false c8
   have c8b1 : decide (8 < t457.length) = false:=decide_eq_false (by omega)
   clear c8
   have H':=Aside0.mk H
   clear H
   go_wp2_with (first|((with_reducible refine gate_callee (f:=68) rfl ?_);refine goesL_ (some 24) rfl rfl Tryd.func68 (by kernel_rfl) rfl #[.string t455,.string (⟨#[47]⟩ : ByteArray)] rfl (by (try simp only [List.map_toArray,List.map_cons,List.map_nil]);first|done|rfl|(simp only [List.length_drop,List.length_take];rfl)) ?_;(with_reducible refine (strings_Split.calls t455 (⟨#[47]⟩ : ByteArray) t457 _ A7.out (Glob.below hG (by repeat (first|(with_reducible first|exact HB.out|apply below_alloc|apply pw_below_drewN|apply below_drew1)|exact HB.out)))).mono ?_);rintro e w11 ⟨v458,rfl,ho0,hb⟩;refine ⟨_,rfl,?_⟩;have n0_:=Aside0.mk (Kd.R_lower ho0 (below_size (by repeat (first|(with_reducible first|exact HB.out|apply below_alloc|apply pw_below_drewN|apply below_drew1)|exact HB.out))));have n1_:=Aside0.mk (below_step (by repeat (first|(with_reducible first|exact HB.out|apply below_alloc|apply pw_below_drewN|apply below_drew1)|exact HB.out)) hb);clear HB;have HO459:=n0_;have HB:=n1_;clear n0_ n1_;(try clear hb);(try clear hb2);(try clear hk);(try clear hi);(try clear ho0);obtain ⟨Ao12,co12,eo12⟩:=Kd.R_slice HO459.out;subst eo12))
   go_loopg [30] kj3 (fun kq v30 w' => ∃ (x30_2 : Int),v30 = .int .i64 x30_2 ∧ Aside0 (label_Split.l0 kq t457 t457 (t457.length : Int) x30_2 = some (r1,r2)) ∧ Aside0 (kq ≤ kj3) ∧ Aside0 (Kd.R Kd.string 9 w' w.heap.size (fun _ => True) (.slice Ao12 t457.length co12) t457) ∧ Aside0 (Kd.R Kd.string 9 w' w.heap.size (fun _ => True) (.slice Ao12 t457.length co12) t457) ∧ Aside0 (Below w.heap.size w w'))
   case atStart => exact ⟨(0),(by first|rfl|(simp;done)|(simp [*];done)|(simp;rw [Bool.eq_iff_iff];simp;done)|(rw [Bool.eq_iff_iff];simp;done)),H',⟨Nat.le_refl _⟩,⟨by (with_reducible repeat (first|apply Kd.R_alloc|apply Kd.R_drewN|apply Kd.R_drew));exact HO459.out⟩,⟨by (with_reducible repeat (first|apply Kd.R_alloc|apply Kd.R_drewN|apply Kd.R_drew));exact HO459.out⟩,⟨by repeat (first|(with_reducible first|exact HB.out|apply below_alloc|apply pw_below_drewN|apply below_drew1)|exact HB.out)⟩⟩
   case round =>
    clear H';(try clear c2);(try clear c2b0);(try clear c2b1);(try clear p2);(try clear c5);(try clear c6);(try clear c8);(try clear c8b0);(try clear c8b1);(try clear p2)
    obtain ⟨x30_2,rfl,HA,HK2,HO_6,HO_28,HB⟩:=hrel
    cases gk with
   |zero => exact absurd HA.out (by simp [label_Split.l0])
   |succ k2 =>
     have H:=HA.out
     clear HA
     simp only [label_Split.l0] at H
     by_cases c13 : x30_2 < (t457.length : Int)
     rotate_left
     ·rw [if_neg c13] at H
      have c13b0 : decide (x30_2 < (t457.length : Int)) = false:=decide_eq_false c13
      clear c13
      simp only [Option.some.injEq,Prod.mk.injEq] at H
      obtain ⟨rfl,rfl⟩:=H
      go_wp2
      go_ret2
      exact ⟨_,by first|rfl|(simp [errW_none,errW_some] <;> rfl)|(simp [*,errW_none,errW_some] <;> rfl),by (with_reducible repeat (first|apply Kd.R_alloc|apply Kd.R_drewN|apply Kd.R_drew));exact HO_6.out,by repeat (first|(with_reducible first|exact HB.out|apply below_alloc|apply pw_below_drewN|apply below_drew1)|exact HB.out)⟩
     rw [if_pos c13] at H
     have c13b0 : decide (x30_2 < (t457.length : Int)) = true:=decide_eq_true c13
     clear c13
     by_cases c14 : 0 ≤ x30_2
     rotate_left
     ·rw [if_neg c14] at H
      exact absurd H (by simp)
     rw [if_pos c14] at H
     have c14b0 : decide (0 ≤ x30_2) = true:=decide_eq_true c14
     clear c14
     by_cases c15 : x30_2 < (t457.length : Int)
     rotate_left
     ·rw [if_neg c15] at H
      exact absurd H (by simp)
     rw [if_pos c15] at H
     have c15b0 : decide (x30_2 < (t457.length : Int)) = true:=decide_eq_true c15
     clear c15
     replace H:=Option.bind_eq_some_iff.mp H
     obtain ⟨t461,A160,H⟩:=H
     replace H : (if t461 = true then (label_Split.l0 k2 t457 t457 (t457.length : Int) (wrap64 (x30_2 + 1))) else (some (([] : List ByteArray),41))) = some (r1,r2):=H
     have A16:=Aside0.mk A160
     clear A160
     by_cases c17 : t461 = true
     rotate_left
     ·replace c17:=Bool.eq_false_iff.mpr c17
      subst c17
      have H1 : (some (([] : List ByteArray),41)) = some (r1,r2):=by rw [if_neg (show ¬ (false = true) by decide)] at H;exact H
      clear H;have H:=H1;clear H1
      simp only [Option.some.injEq,Prod.mk.injEq] at H
      obtain ⟨rfl,rfl⟩:=H
      have p460 : 0 ≤ (x30_2 : Int):=of_decide_eq_true (by first|(with_reducible assumption)|assumption)
      have q460 : x30_2 < (t457.length : Int):=of_decide_eq_true (by first|(with_reducible assumption)|assumption)
      obtain ⟨ad460,e460,hx460_0⟩:=Kd.at_string (Kd.R_reads' HO_28.out).2.2 x30_2 p460 q460
      cases e460
      replace p460:=eq_true p460
      replace q460:=eq_true q460
      go_wp2_with (first|((with_reducible refine gate_callee (f:=29) rfl ?_);refine goesL_ (some 35) rfl rfl Tryd.func29 (by kernel_rfl) rfl #[.string (rdOf ByteArray.empty t457 x30_2)] rfl (by (try simp only [List.map_toArray,List.map_cons,List.map_nil]);first|done|rfl|(simp only [List.length_drop,List.length_take];rfl)) ?_;(with_reducible refine (label_Name.calls (rdOf ByteArray.empty t457 x30_2) false _ A16.out).mono ?_);rintro e w19 ⟨rfl,hb⟩;refine ⟨_,rfl,?_⟩;have n0_:=Aside0.mk (Kd.R_below (by (with_reducible repeat (first|apply Kd.R_alloc|apply Kd.R_drewN|apply Kd.R_drew));exact HO_6.out) hb);have n1_:=Aside0.mk (Kd.R_below (by (with_reducible repeat (first|apply Kd.R_alloc|apply Kd.R_drewN|apply Kd.R_drew));exact HO_28.out) hb);have n2_:=Aside0.mk (below_step (by repeat (first|(with_reducible first|exact HB.out|apply below_alloc|apply pw_below_drewN|apply below_drew1)|exact HB.out)) hb);clear HO_6;clear HO_28;clear HB;have HO_6:=n0_;have HO_28:=n1_;have HB:=n2_;clear n0_ n1_ n2_;(try clear hb);(try clear hb2);(try clear hk);(try clear hi)))
      go_ret2
      exact ⟨_,by first|rfl|(simp [errW_none,errW_some] <;> rfl)|(simp [*,errW_none,errW_some] <;> rfl),by first|exact Kd.R_nil _ _ _ _ _|exact Kd.N_nil _ _ _ _ _|exact Kd.V_nil _ _ _ _ _|exact Kd.Q_nil _ _ _ _ _|exact Kd.S_nil _ _ _ _ _,by repeat (first|(with_reducible first|exact HB.out|apply below_alloc|apply pw_below_drewN|apply below_drew1)|exact HB.out)⟩
     subst c17
     have H1 : (label_Split.l0 k2 t457 t457 (t457.length : Int) (wrap64 (x30_2 + 1))) = some (r1,r2):=by rw [if_pos rfl] at H;exact H
     clear H;have H:=H1;clear H1
     have H':=Aside0.mk H
     clear H
     have p460 : 0 ≤ (x30_2 : Int):=of_decide_eq_true (by first|(with_reducible assumption)|assumption)
     have q460 : x30_2 < (t457.length : Int):=of_decide_eq_true (by first|(with_reducible assumption)|assumption)
     obtain ⟨ad460,e460,hx460_0⟩:=Kd.at_string (Kd.R_reads' HO_28.out).2.2 x30_2 p460 q460
     cases e460
     replace p460:=eq_true p460
     replace q460:=eq_true q460
     go_wp2_with (first|((with_reducible refine gate_callee (f:=29) rfl ?_);refine goesL_ (some 35) rfl rfl Tryd.func29 (by kernel_rfl) rfl #[.string (rdOf ByteArray.empty t457 x30_2)] rfl (by (try simp only [List.map_toArray,List.map_cons,List.map_nil]);first|done|rfl|(simp only [List.length_drop,List.length_take];rfl)) ?_;(with_reducible refine (label_Name.calls (rdOf ByteArray.empty t457 x30_2) true _ A16.out).mono ?_);rintro e w18 ⟨rfl,hb⟩;refine ⟨_,rfl,?_⟩;have n0_:=Aside0.mk (Kd.R_below (by (with_reducible repeat (first|apply Kd.R_alloc|apply Kd.R_drewN|apply Kd.R_drew));exact HO_6.out) hb);have n1_:=Aside0.mk (Kd.R_below (by (with_reducible repeat (first|apply Kd.R_alloc|apply Kd.R_drewN|apply Kd.R_drew));exact HO_28.out) hb);have n2_:=Aside0.mk (below_step (by repeat (first|(with_reducible first|exact HB.out|apply below_alloc|apply pw_below_drewN|apply below_drew1)|exact HB.out)) hb);clear HO_6;clear HO_28;clear HB;have HO_6:=n0_;have HO_28:=n1_;have HB:=n2_;clear n0_ n1_ n2_;(try clear hb);(try clear hb2);(try clear hk);(try clear hi)))
     go_roundg k2
     case measure => have:=HJ3.out;have:=HK2.out;omega
     case rel => exact ⟨(wrap64 (x30_2 + 1)),(by first|rfl|(simp;done)|(simp [*];done)|(simp;rw [Bool.eq_iff_iff];simp;done)|(rw [Bool.eq_iff_iff];simp;done)),H',⟨by have:=HJ3.out;have:=HK2.out;omega⟩,⟨by (with_reducible repeat (first|apply Kd.R_alloc|apply Kd.R_drewN|apply Kd.R_drew));exact HO_6.out⟩,⟨by (with_reducible repeat (first|apply Kd.R_alloc|apply Kd.R_drewN|apply Kd.R_drew));exact HO_28.out⟩,⟨by repeat (first|(with_reducible first|exact HB.out|apply below_alloc|apply pw_below_drewN|apply below_drew1)|exact HB.out)⟩⟩
end Go.Proofs.YtniolbolfclhkaaDoor.Q
namespace Go.Proofs.YtniolbolfclhkaaDoor.Q
open Go.RowKit Go.Proofs.YtniolbolfclhkaaDoorW.PrintWords Go.Proofs.YtniolbolfclhkaaDoorW.PrintLast Go.Proofs.YtniolbolfclhkaaDoorW.PrintMore
attribute [local go_sem] max2_int min2_int max_two min_two max_three min_three max_four min_four   -- for this text's walks alone
set_option linter.unusedVariables false
set_option linter.unusedSimpArgs false
def label_Path.f (k : Nat) (a0 : ByteArray) : Option (Int) := (label_Split.f k a0).bind fun bt462 => (some bt462.2)
theorem label_Path.mono : ∀ a0 k, LeO (label_Path.f k a0) (label_Path.f (k + 1) a0) := by
 intro a0 k
 unfold label_Path.f
 repeat' first
  |(with_reducible exact label_Split.mono _ _)
  |(with_reducible exact LeO.refl _)
  |(with_reducible exact LeO.none _)
  |(with_reducible refine LeO.ite ?_ ?_)
  |(with_reducible refine LeO.bind ?_ (fun _ => ?_))
  |exact label_Split.mono _ _
  |exact LeO.none _
  |refine LeO.ite ?_ ?_
  |refine LeO.bind ?_ (fun _ => ?_)
set_option maxHeartbeats 8000000 in
set_option maxRecDepth 100000 in
theorem label_Path.calls (k : Nat) (a0 : ByteArray) (r : Int) (w : World) (h : label_Path.f k a0 = some r) (hG : Glob w) :
  Calls Tryd.prog 28 #[.string a0] w fun e w' => e = .returned (.int .i64 r) ∧ Below w.heap.size w w':=by
 have HB:=Aside0.mk (Below.refl w.heap.size w)
 have H : ((label_Split.f k a0).bind fun bt462 => (some bt462.2)) = some r:=h
 clear h
 replace H:=Option.bind_eq_some_iff.mp H
 obtain ⟨⟨t462,t463⟩,A20,H⟩:=H
 replace H : (some t463) = some r:=H
 have A2:=Aside0.mk A20
 clear A20
 obtain rfl:=Option.some.inj H
 go_enter Tryd.func28,Tryd.ntmps28
 go_wp2_with (first|((with_reducible refine gate_callee (f:=54) rfl ?_);refine goesL_ (some 7) rfl rfl Tryd.func54 (by kernel_rfl) rfl #[.string a0] rfl (by (try simp only [List.map_toArray,List.map_cons,List.map_nil]);first|done|rfl|(simp only [List.length_drop,List.length_take];rfl)) ?_;(with_reducible refine (label_Split.calls k a0 t462 t463 _ A2.out (Glob.below hG (by repeat (first|(with_reducible first|exact HB.out|apply below_alloc|apply pw_below_drewN|apply below_drew1)|exact HB.out)))).mono ?_);rintro e w3 ⟨v464,rfl,ho0,hb⟩;refine ⟨_,rfl,?_⟩;have n0_:=Aside0.mk (Kd.R_lower ho0 (below_size (by repeat (first|(with_reducible first|exact HB.out|apply below_alloc|apply pw_below_drewN|apply below_drew1)|exact HB.out))));have n1_:=Aside0.mk (below_step (by repeat (first|(with_reducible first|exact HB.out|apply below_alloc|apply pw_below_drewN|apply below_drew1)|exact HB.out)) hb);clear HB;have HO465:=n0_;have HB:=n1_;clear n0_ n1_;(try clear hb);(try clear hb2);(try clear hk);(try clear hi);(try clear ho0)))
 go_ret
 exact ⟨by first|rfl|(simp [errW_none,errW_some] <;> rfl)|(simp [*,errW_none,errW_some] <;> rfl),by repeat (first|(with_reducible first|exact HB.out|apply below_alloc|apply pw_below_drewN|apply below_drew1)|exact HB.out)⟩
end Go.Proofs.YtniolbolfclhkaaDoor.Q
namespace Go.Proofs.YtniolbolfclhkaaDoor.Pl
def pcs (c : UInt8) : List UInt8 → List (List UInt8)
  | [] => [[]]
  | x :: l => if x = c then [] :: pcs c l else match pcs c l with
    | [] => [[x]]
    | p :: r => (x :: p) :: r
theorem pcs_ne (c : UInt8) (l : List UInt8) : pcs c l ≠ [] := by
  cases l with
  | nil => simp [pcs]
  | cons x l =>
    unfold pcs
    split
    · simp
    · split <;> simp
theorem pcs_hit (c : UInt8) (l : List UInt8) : pcs c (c :: l) = [] :: pcs c l := by simp [pcs]
theorem pcs_cons (c x : UInt8) (l : List UInt8) (h : x ≠ c) : ∃ p r, pcs c l = p :: r ∧ pcs c (x :: l) = (x :: p) :: r := by
  cases hp : pcs c l with
  | nil => exact absurd hp (pcs_ne c l)
  | cons p r => exact ⟨p, r, rfl, by simp [pcs, h, hp]⟩
theorem pcs_app (c : UInt8) (n l : List UInt8) (h : c ∉ n) : pcs c (n ++ c :: l) = n :: pcs c l := by
  induction n with
  | nil => simp [pcs]
  | cons x n ih =>
    have hx : x ≠ c := fun e => h (by simp [e])
    have hn : c ∉ n := fun e => h (by simp [e])
    simp [pcs, hx, ih hn]
theorem pcs_one (c : UInt8) (n : List UInt8) (h : c ∉ n) : pcs c n = [n] := by
  induction n with
  | nil => simp [pcs]
  | cons x n ih =>
    have hx : x ≠ c := fun e => h (by simp [e])
    have hn : c ∉ n := fun e => h (by simp [e])
    simp [pcs, hx, ih hn]
theorem pcs_flat (c : UInt8) (l : List UInt8) : ((pcs c l).map (c :: ·)).flatten = c :: l := by
  induction l with
  | nil => simp [pcs]
  | cons x l ih =>
    by_cases h : x = c
    · subst h
      rw [pcs_hit]
      simp only [List.map_cons, List.flatten_cons, ih]
      rfl
    · obtain ⟨p, r, h1, h2⟩ := pcs_cons c x l h
      rw [h2]
      rw [h1] at ih
      simp only [List.map_cons, List.flatten_cons] at ih ⊢
      have := List.cons.inj ih
      show c :: (x :: p) ++ _ = c :: x :: l
      rw [← this.2]
      rfl
theorem pcs_of_names (c : UInt8) (n : List UInt8) (ns : List (List UInt8)) (h : ∀ p ∈ n :: ns, c ∉ p) : pcs c (n ++ (ns.map (c :: ·)).flatten) = n :: ns := by
  induction ns generalizing n with
  | nil => simp [pcs_one c n (h n (by simp))]
  | cons m ns ih =>
    have := ih m (fun p hp => h p (List.mem_cons_of_mem _ hp))
    simp only [List.map_cons, List.flatten_cons, List.cons_append]
    rw [pcs_app c n _ (h n (by simp)), this]
def flat (ns : List (List UInt8)) : List UInt8 := (ns.map (47 :: ·)).flatten
def pathL (ns : List (List UInt8)) : List UInt8 := if ns = [] then [47] else flat ns
theorem flat_cons (n : List UInt8) (ns : List (List UInt8)) : flat (n :: ns) = 47 :: (n ++ flat ns) := by simp [flat]
end Go.Proofs.YtniolbolfclhkaaDoor.Pl
namespace Go.Proofs.YtniolbolfclhkaaDoor.Q
open Go.RowKit Go.Proofs.YtniolbolfclhkaaDoorW.PrintWords Go.Proofs.YtniolbolfclhkaaDoorW.PrintLast Go.Proofs.YtniolbolfclhkaaDoor.Pl
set_option linter.unusedVariables false
set_option linter.unusedSimpArgs false
def toB (l : List UInt8) : ByteArray := ⟨l.toArray⟩
theorem toB_list (l : List UInt8) : (toB l).data.toList = l := rfl
theorem toB_of (s : ByteArray) : toB s.data.toList = s := ba_ext rfl
theorem toB_size (l : List UInt8) : (toB l).size = l.length := by simp [toB, ByteArray.size]
theorem size_list (s : ByteArray) : s.data.toList.length = s.size := by rw [Array.length_toList]; rfl
theorem lit_list {s : ByteArray} {l : List UInt8} : s.toList = l ↔ s.data.toList = l := by rw [ByteArray.toList_eq]
def nameL (l : List UInt8) : Bool := nameB (toB l)
theorem name_free {l : List UInt8} (h : nameL l = true) : (47 : UInt8) ∉ l := by
  intro hm
  have : (toB l).data.toList.all okByte = false := by
    rw [List.all_eq_false]
    exact ⟨47, hm, by decide⟩
  unfold nameL at h
  rw [nameB_false (.inr (.inr (.inr (.inr this))))] at h
  cases h
theorem name_size {s : ByteArray} (h : nameB s = true) : 1 ≤ s.size ∧ s.size ≤ 32 := by
  unfold nameB at h
  simp only [Bool.and_eq_true, decide_eq_true_eq] at h
  exact ⟨h.1.1.1.1, h.1.1.1.2⟩
theorem drop_cons (s : ByteArray) (i : Nat) (h : i < s.size) : s.data.toList.drop i = s[i]'h :: s.data.toList.drop (i + 1) :=
  List.drop_eq_getElem_cons (by rw [size_list]; exact h)
theorem ext_list (s : ByteArray) (a b : Nat) : (s.extract a b).data.toList = (s.data.toList.take b).drop a := by
  rw [List.drop_take]
  simp
def rest (c : UInt8) (s : ByteArray) (from_ i : Nat) : List (List UInt8) := match pcs c (s.data.toList.drop i) with
  | [] => []
  | p :: r => (((s.data.toList.take i).drop from_) ++ p) :: r
theorem splitK_ne (c x : UInt8) (h : x ≠ c) (l : List UInt8) (k : Nat) : ∃ p r, Lib.splitK [c] 0 k l = p :: r ∧ Lib.splitK [c] 0 k (x :: l) = (x :: p) :: r := by
  cases k with
  | zero => exact ⟨l, [], rfl, rfl⟩
  | succ k =>
    have hp : ([c] : List UInt8).isPrefixOf (x :: l) = false := by simp [List.isPrefixOf, Ne.symm h]
    have hix : Lib.index (x :: l) [c] = if Lib.index l [c] == -1 then -1 else Lib.index l [c] + 1 := by rw [Lib.index, hp]; simp
    unfold Lib.splitK
    by_cases hm : (Lib.index l [c] == -1) = true
    · rw [hix, if_pos hm, if_pos hm]
      exact ⟨l, [], rfl, by rw [if_pos (by decide)]⟩
    · have hge := Lib.index_ge l [c]
      have hne : Lib.index l [c] ≠ -1 := fun e => hm (beq_iff_eq.2 e)
      obtain ⟨i, hi⟩ : ∃ i : Nat, Lib.index l [c] = i := ⟨(Lib.index l [c]).toNat, by omega⟩
      rw [hix, if_neg hm, if_neg hm, hi]
      refine ⟨_, _, rfl, ?_⟩
      rw [if_neg (by simp; omega), show ((i : Int) + 1).toNat = i + 1 by omega, Int.toNat_natCast]
      simp [Nat.add_right_comm]
theorem splitK_pcs (c : UInt8) (l : List UInt8) : Lib.splitK [c] 0 (Lib.count l [c]) l = pcs c l := by
  induction l with
  | nil => rw [Lib.count_miss (by simp [Lib.index])]; rfl
  | cons x l ih =>
    by_cases h : x = c
    · subst h
      rw [Lib.count_cons_eq, Nat.add_comm]
      have hix : Lib.index (x :: l) [x] = 0 := by rw [Lib.index]; simp [List.isPrefixOf]
      unfold Lib.splitK
      rw [hix, pcs_hit, ← ih]
      simp
    · rw [Lib.count_cons_ne x c l h]
      obtain ⟨p, r, h1, h2⟩ := splitK_ne c x h l (Lib.count l [c])
      obtain ⟨p', r', h3, h4⟩ := pcs_cons c x l h
      rw [h2, h4]
      rw [h1, h3] at ih
      rw [(List.cons.inj ih).1, (List.cons.inj ih).2]
theorem map_toB (l : List ByteArray) : (l.map (·.data.toList)).map toB = l := by
  simp [List.map_map, Function.comp_def, toB_of]
theorem split_some (s : ByteArray) (c : UInt8) (h : s.size < 4294967281) : strings_Split.f s (⟨#[c]⟩ : ByteArray) = some ((pcs c s.data.toList).map toB) := by
  unfold strings_Split.f
  rw [if_pos ⟨h, Nat.le_refl 1⟩, ← splitK_pcs c s.data.toList, ← map_toB (Lib.splitB _ _ _ _), Lib.splitB_data]
def splitS (s : ByteArray) : List ByteArray × Int :=
  if s.data.toList = [47] then ([], 0) else
  match s.data.toList with
  | [] => ([], 41)
  | c :: r => if c = 47 ∧ s.size ≤ 64 ∧ (pcs 47 r).length ≤ 8 ∧ (pcs 47 r).all nameL = true then ((pcs 47 r).map toB, 0) else ([], 41)
theorem rd_map (l : List (List UInt8)) (i : Nat) (h : i < l.length) : rdOf ByteArray.empty (l.map toB) (i : Int) = toB (l[i]'h) := by
  rw [rd_at _ i (by simpa using h)]; simp
theorem drop_at {α : Type} (l : List α) (i : Nat) (h : i < l.length) : l.drop i = l[i]'h :: l.drop (i + 1) := List.drop_eq_getElem_cons h
theorem hasPrefix_lite (s p : ByteArray) : stringslite_HasPrefix.f s p = some (decide (p.data.toList <+: s.data.toList)) := by
  unfold stringslite_HasPrefix.f
  by_cases h : (s.size : Int) ≥ (p.size : Int)
  · rw [if_pos h, if_pos (by omega), if_pos (by omega)]
    congr 1
    rw [ByteArray.toList_eq, ByteArray.toList_eq, Int.toNat_natCast, ext_list, List.drop_zero, Bool.eq_iff_iff]
    simp only [beq_iff_eq, decide_eq_true_eq]
    rw [List.prefix_iff_eq_take, size_list]
    exact eq_comm
  · rw [if_neg h]
    congr 1
    rw [eq_comm, decide_eq_false_iff_not]
    intro hp
    have := hp.length_le
    rw [size_list, size_list] at this
    omega
theorem cutPrefix_yes (s p : ByteArray) (h : p.data.toList <+: s.data.toList) : strings_CutPrefix.f s p = some (toB (s.data.toList.drop p.size), true) := by
  have hle := h.length_le
  rw [size_list, size_list] at hle
  unfold strings_CutPrefix.f stringslite_CutPrefix.f
  rw [hasPrefix_lite, decide_eq_true h, Option.bind_some, if_pos rfl, if_pos (by omega), if_pos (by omega), Option.bind_some]
  simp only [Int.toNat_natCast]
  congr 2
  apply ba_ext
  rw [ext_list, toB_list, List.take_of_length_le (by rw [size_list]; omega)]
theorem cutPrefix_no (s p : ByteArray) (h : ¬ p.data.toList <+: s.data.toList) : strings_CutPrefix.f s p = some (s, false) := by
  unfold strings_CutPrefix.f stringslite_CutPrefix.f
  rw [hasPrefix_lite, decide_eq_false h, Option.bind_some, if_neg (by decide), Option.bind_some]
theorem lsloop (x6 : List ByteArray) (l : List (List UInt8)) (hl : l.length ≤ 2000000) (d : Nat) : ∀ i : Nat, i + d = l.length →
    Ev (fun k => label_Split.l0 k x6 (l.map toB) (l.length : Int) (i : Int)) (if (l.drop i).all nameL = true then (x6, 0) else ([], 41)) := by
  induction d with
  | zero =>
    intro i hi
    rw [List.drop_of_length_le (by omega)]
    refine Ev.step (f := fun _ => some (x6, 0)) (fun k => ?_) (Ev.now _)
    simp only [label_Split.l0]
    rw [if_neg (by omega)]
  | succ d ih =>
    intro i hi
    have hlt : i < l.length := by omega
    rw [drop_at l i hlt, List.all_cons]
    have e : label_Name.f (toB l[i]) = some (nameL l[i]) := rfl
    cases hn : nameL l[i] with
    | true =>
      rw [Bool.true_and]
      refine Ev.step (fun k => ?_) (ih (i + 1) (by omega))
      simp only [label_Split.l0]
      rw [if_pos (by omega), if_pos (by omega), if_pos (by simp; omega), rd_map l i hlt, e, hn, Option.bind_some, if_pos rfl, w64 i (by omega)]
    | false =>
      refine Ev.step (f := fun _ => some ([], 41)) (fun k => ?_) (Ev.now _)
      simp only [label_Split.l0]
      rw [if_pos (by omega), if_pos (by omega), if_pos (by simp; omega), rd_map l i hlt, e, hn, Option.bind_some, if_neg (by decide)]
theorem split_ev (s : ByteArray) : Ev (fun k => label_Split.f k s) (splitS s) := by
  have hbad : ∀ l, Ev (fun k => label_Split.j0 k l true) ([], 41) := fun l => Ev.step (f := fun _ => some ([], 41)) (fun k => by simp [label_Split.j0]) (Ev.now _)
  unfold splitS
  by_cases hr : s.data.toList = [47]
  · rw [if_pos hr]
    refine Ev.congr (f := fun _ => some ([], 0)) (fun k => ?_) (Ev.now _)
    unfold label_Split.f; rw [if_pos (lit_list.2 hr)]
  rw [if_neg hr]
  have hno : ∀ (h : ¬ (⟨#[47]⟩ : ByteArray).data.toList <+: s.data.toList), Ev (fun k => label_Split.f k s) ([], 41) := fun h => by
    refine Ev.congr (fun k => ?_) (hbad s)
    unfold label_Split.f; rw [if_neg (fun h => hr (lit_list.1 h)), cutPrefix_no s _ h, Option.bind_some, if_neg (by simp)]
  cases hl : s.data.toList with
  | nil => exact hno (by rw [hl]; simp)
  | cons c r =>
    show Ev _ (if c = 47 ∧ s.size ≤ 64 ∧ (pcs 47 r).length ≤ 8 ∧ (pcs 47 r).all nameL = true then ((pcs 47 r).map toB, (0 : Int)) else ([], 41))
    by_cases hc : c = 47
    rotate_left
    · rw [if_neg (fun h => hc h.1)]
      exact hno (by rw [hl]; intro h; simp at h; exact hc h.symm)
    subst hc
    have hcut := cutPrefix_yes s (⟨#[47]⟩ : ByteArray) (by rw [hl]; simp)
    have h1 : s.data.toList.drop (⟨#[47]⟩ : ByteArray).size = r := by rw [hl]; rfl
    rw [h1] at hcut
    by_cases h64 : s.size ≤ 64
    rotate_left
    · rw [if_neg (fun h => h64 h.2.1)]
      refine Ev.congr (fun k => ?_) (hbad (toB r))
      unfold label_Split.f
      rw [if_neg (fun h => hr (lit_list.1 h)), hcut, Option.bind_some, if_pos rfl, decide_eq_true (by omega)]
    have hsp := split_some (toB r) 47 (by rw [toB_size]; have := size_list s; rw [hl] at this; simp at this; omega)
    rw [toB_list] at hsp
    by_cases h8 : (pcs 47 r).length ≤ 8
    · have e : (if (47 : UInt8) = 47 ∧ s.size ≤ 64 ∧ (pcs 47 r).length ≤ 8 ∧ (pcs 47 r).all nameL = true then ((pcs 47 r).map toB, (0 : Int)) else ([], 41)) = (if (pcs 47 r).all nameL = true then ((pcs 47 r).map toB, (0 : Int)) else ([], 41)) := by
        by_cases ha : (pcs 47 r).all nameL = true
        · rw [if_pos ⟨rfl, h64, h8, ha⟩, if_pos ha]
        · rw [if_neg (fun h => ha h.2.2.2), if_neg ha]
      rw [e]
      have h := lsloop ((pcs 47 r).map toB) (pcs 47 r) (by omega) (pcs 47 r).length 0 (by omega)
      rw [List.drop_zero] at h
      refine Ev.congr (f := fun k => label_Split.j0 k (toB r) false) (fun k => ?_) (Ev.step (fun k => ?_) h)
      · unfold label_Split.f
        rw [if_neg (fun h => hr (lit_list.1 h)), hcut, Option.bind_some, if_pos rfl, decide_eq_false (by omega)]
      · simp only [label_Split.j0]
        rw [if_neg (by decide), hsp, Option.bind_some, if_neg (by simp; omega)]
        simp
    · rw [if_neg (fun h => h8 h.2.2.1)]
      refine Ev.congr (f := fun k => label_Split.j0 k (toB r) false) (fun k => ?_) (Ev.step (f := fun _ => some ([], 41)) (fun k => ?_) (Ev.now _))
      · unfold label_Split.f
        rw [if_neg (fun h => hr (lit_list.1 h)), hcut, Option.bind_some, if_pos rfl, decide_eq_false (by omega)]
      · simp only [label_Split.j0]
        rw [if_neg (by decide), hsp, Option.bind_some, if_pos (by simp; omega)]
def pathS (s : ByteArray) : Int := (splitS s).2
theorem path_ev (s : ByteArray) : Ev (fun k => label_Path.f k s) (pathS s) :=
  Ev.congr (fun k => rfl) (Ev.bind (split_ev s) (f := fun (_ : Nat) (b : List ByteArray × Int) => some b.2) (Ev.now _))
structure IsPath (s : ByteArray) (ns : List (List UInt8)) : Prop where
  list : s.data.toList = pathL ns
  most : ns.length ≤ 8
  size : s.size ≤ 64
  names : ns.all nameL = true
theorem IsPath.free {s : ByteArray} {ns : List (List UInt8)} (h : IsPath s ns) : ∀ p ∈ ns, (47 : UInt8) ∉ p := fun p hp => name_free (List.all_eq_true.1 h.names p hp)
theorem isPath_of (s : ByteArray) (ns : List (List UInt8)) (h : IsPath s ns) : splitS s = (ns.map toB, 0) := by
  unfold splitS
  cases ns with
  | nil => rw [h.list]; rfl
  | cons n ns =>
    have hl : s.data.toList = 47 :: (n ++ flat ns) := by rw [h.list]; unfold pathL; rw [if_neg (by simp), flat_cons]
    have hp : pcs 47 (n ++ flat ns) = n :: ns := pcs_of_names 47 n ns h.free
    have hn : n ≠ [] := by
      intro e
      have := List.all_eq_true.1 h.names n (by simp)
      rw [e] at this
      exact absurd this (by decide)
    rw [if_neg (by rw [hl]; intro e; simp at e; exact hn e.1), hl]
    show (if (47 : UInt8) = 47 ∧ s.size ≤ 64 ∧ (pcs 47 (n ++ flat ns)).length ≤ 8 ∧ (pcs 47 (n ++ flat ns)).all nameL = true then ((pcs 47 (n ++ flat ns)).map toB, (0 : Int)) else ([], 41)) = _
    rw [hp, if_pos ⟨rfl, h.size, h.most, h.names⟩]
theorem path_cases (s : ByteArray) : (∃ ns, IsPath s ns ∧ splitS s = (ns.map toB, 0)) ∨ ((∀ ns, ¬ IsPath s ns) ∧ splitS s = ([], 41)) := by
  by_cases h : ∃ ns, IsPath s ns
  · obtain ⟨ns, h⟩ := h
    exact .inl ⟨ns, h, isPath_of s ns h⟩
  · have hn : ∀ ns, ¬ IsPath s ns := fun ns hp => h ⟨ns, hp⟩
    refine .inr ⟨hn, ?_⟩
    unfold splitS
    by_cases hr : s.data.toList = [47]
    · exact absurd ⟨by rw [hr]; rfl, by simp, by rw [← size_list, hr]; simp, rfl⟩ (hn [])
    rw [if_neg hr]
    cases hl : s.data.toList with
    | nil => rfl
    | cons c r =>
      show (if c = 47 ∧ s.size ≤ 64 ∧ (pcs 47 r).length ≤ 8 ∧ (pcs 47 r).all nameL = true then ((pcs 47 r).map toB, (0 : Int)) else ([], 41)) = _
      by_cases hc : c = 47 ∧ s.size ≤ 64 ∧ (pcs 47 r).length ≤ 8 ∧ (pcs 47 r).all nameL = true
      · obtain ⟨rfl, h1, h2, h3⟩ := hc
        refine absurd ⟨?_, h2, h1, h3⟩ (hn (pcs 47 r))
        rw [hl]
        unfold pathL flat
        rw [if_neg (pcs_ne _ _), pcs_flat]
      · rw [if_neg hc]
end Go.Proofs.YtniolbolfclhkaaDoor.Q
namespace Go.Proofs.YtniolbolfclhkaaDoor.Q
open Go.RowKit Go.Proofs.YtniolbolfclhkaaDoorW.PrintWords Go.Proofs.YtniolbolfclhkaaDoorW.PrintLast Go.Proofs.YtniolbolfclhkaaDoor.Pl
set_option linter.unusedVariables false
set_option linter.unusedSimpArgs false
def keyN (l : List S37) (j : Nat) : ByteArray := (rd_T37 l (j : Int)).f0
def valN (l : List S37) (j : Nat) : ByteArray := (rd_T37 l (j : Int)).f1
def vlB (l : List S37) (i : Nat) : Bool := decide (valN l i = ByteArray.empty) || nameB (valN l i)
def ordB (l : List S37) (i : Nat) : Bool := decide (i = 0) || Op.bytesLess (keyN l (i - 1)).toList (keyN l i).toList
def vstep (l : List S37) (i : Nat) : Bool := nameB (keyN l i) && (vlB l i && ordB l i)
def vR (l : List S37) : Int := if l.length ≤ 16 ∧ (List.range' 0 l.length).all (vstep l) = true then 0 else 42
theorem value_some (a : ByteArray) : label_value.f a = some (decide (a = ByteArray.empty) || nameB a) := by
  unfold label_value.f
  by_cases h : a = ByteArray.empty
  · subst h; rw [if_pos (by rw [ByteArray.toList_eq]; rfl)]; rfl
  · rw [if_neg (fun e => h (ba_ext (by rw [ByteArray.toList_eq] at e; rw [e]; rfl))), decide_eq_false h]; rfl
theorem tail_ev (l : List S37) (i : Nat) (hi : i < l.length) (h16 : l.length ≤ 16) (g : Nat → Int → Option Int) (r : Int) (hg : Ev (fun k => g k ((i + 1 : Nat) : Int)) r) :
    Ev (fun k => if (i : Int) > 0 then (if 0 ≤ (wrap64 ((i : Int) - 1)) then (if (wrap64 ((i : Int) - 1)) < (l.length : Int) then (if ((Op.bytesLess (((rd_T37 l (wrap64 ((i : Int) - 1))).f0).toList) (((rd_T37 l (i : Int)).f0).toList)) = true) then (g k (wrap64 ((i : Int) + 1))) else (some 42)) else (none)) else (none)) else (g k (wrap64 ((i : Int) + 1)))) (if ordB l i = true then r else 42) := by
  rw [w64 i (by omega)]
  by_cases h0 : i = 0
  · have : ordB l i = true := by unfold ordB; rw [decide_eq_true h0]; rfl
    rw [if_pos this]
    exact Ev.congr (fun k => if_neg (by omega)) hg
  · have e : wrap64 ((i : Int) - 1) = ((i - 1 : Nat) : Int) := by unfold wrap64; omega
    rw [e]
    cases hb : Op.bytesLess (keyN l (i - 1)).toList (keyN l i).toList with
    | true =>
      have : ordB l i = true := by unfold ordB; rw [hb]; simp
      rw [if_pos this]
      exact Ev.congr (fun k => (if_pos (by omega)).trans ((if_pos (by omega)).trans ((if_pos (by omega)).trans (if_pos hb)))) hg
    | false =>
      have : ordB l i = false := by unfold ordB; rw [hb, decide_eq_false h0]; rfl
      rw [if_neg (by rw [this]; decide)]
      exact Ev.congr (fun k => (if_pos (by omega)).trans ((if_pos (by omega)).trans ((if_pos (by omega)).trans (if_neg (by unfold keyN at hb; rw [hb]; decide))))) (Ev.now _)
theorem vstep_if (l : List S37) (i d : Nat) : (if (List.range' i (d + 1)).all (vstep l) = true then (0 : Int) else 42) = if nameB (keyN l i) = true then (if vlB l i = true then (if ordB l i = true then (if (List.range' (i + 1) d).all (vstep l) = true then 0 else 42) else 42) else 42) else 42 := by
  rw [List.range'_succ, List.all_cons]
  generalize (List.range' (i + 1) d).all (vstep l) = R
  unfold vstep
  cases nameB (keyN l i) <;> cases vlB l i <;> cases ordB l i <;> cases R <;> rfl
theorem lv_loop (l : List S37) (h16 : l.length ≤ 16) (d : Nat) : ∀ i : Nat, i + d = l.length → Ev (fun k => label_Valid.l0 k l l (l.length : Int) (i : Int)) (if (List.range' i d).all (vstep l) = true then 0 else 42) := by
  induction d with
  | zero =>
    intro i hi
    exact Ev.step (f := fun _ => some 0) (fun k => by simp only [label_Valid.l0]; rw [if_neg (by omega)]) (Ev.now _)
  | succ d ih =>
    intro i hi
    have ht := tail_ev l i (by omega) h16 (fun k x => label_Valid.l0 k l l (l.length : Int) x) _ (ih (i + 1) (by omega))
    rw [vstep_if]
    cases hn : nameB (keyN l i) with
    | false =>
      exact Ev.step (f := fun _ => some 42) (fun k => by simp only [label_Valid.l0]; rw [if_pos (by omega), if_pos (by omega), if_pos (by omega), show label_Name.f (rd_T37 l (i : Int)).f0 = some false from congrArg some hn, Option.bind_some, if_neg (by decide)]) (Ev.now _)
    | true =>
      rw [if_pos rfl]
      have hvs : label_value.f (rd_T37 l (i : Int)).f1 = some (vlB l i) := value_some _
      cases hv : vlB l i with
      | false =>
        rw [hv] at hvs
        exact Ev.step (f := fun _ => some 42) (fun k => by simp only [label_Valid.l0]; rw [if_pos (by omega), if_pos (by omega), if_pos (by omega), show label_Name.f (rd_T37 l (i : Int)).f0 = some true from congrArg some hn, Option.bind_some, if_pos rfl, hvs, Option.bind_some, if_neg (by decide)]) (Ev.now _)
      | true =>
        rw [hv] at hvs
        rw [if_pos rfl]
        refine Ev.step (fun k => ?_) ht
        simp only [label_Valid.l0]
        rw [if_pos (by omega), if_pos (by omega), if_pos (by omega), show label_Name.f (rd_T37 l (i : Int)).f0 = some true from congrArg some hn, Option.bind_some, if_pos rfl, hvs, Option.bind_some, if_pos rfl]
theorem labels_ev (l : List S37) : Ev (fun k => label_Valid.f k l) (vR l) := by
  unfold vR
  by_cases h : l.length ≤ 16
  · have := lv_loop l h l.length 0 (by omega)
    have e : (if l.length ≤ 16 ∧ (List.range' 0 l.length).all (vstep l) = true then (0 : Int) else 42) = if (List.range' 0 l.length).all (vstep l) = true then 0 else 42 := by simp only [h, true_and]
    rw [e]
    exact Ev.congr (fun k => by unfold label_Valid.f; rw [if_neg (by omega)]; rfl) this
  · rw [if_neg (fun x => h x.1)]
    exact Ev.congr (fun k => by unfold label_Valid.f; rw [if_pos (by omega)]) (Ev.now _)
theorem vR_step {l : List S37} (h : vR l = 0) : l.length ≤ 16 ∧ ∀ i, i < l.length → vstep l i = true := by
  unfold vR at h
  split at h
  · rename_i hc
    exact ⟨hc.1, fun i hi => List.all_eq_true.1 hc.2 i (by simp; omega)⟩
  · cases h
end Go.Proofs.YtniolbolfclhkaaDoor.Q
namespace Go.Proofs.YtniolbolfclhkaaDoor.Q
open Go.RowKit Go.Proofs.YtniolbolfclhkaaDoorW.PrintWords Go.Proofs.YtniolbolfclhkaaDoorW.PrintLast Go.Proofs.YtniolbolfclhkaaDoorW.PrintMore
attribute [local go_sem] max2_int min2_int max_two min_two max_three min_three max_four min_four   -- for this text's walks alone
set_option linter.unusedVariables false
set_option linter.unusedSimpArgs false
def quant_edge.f (a0 : Int) : Option (Bool) := if a0 ≥ 97 then (if a0 ≤ 122 then (some true) else (if a0 ≥ 48 then (some (decide (a0 ≤ 57))) else (some false))) else (if a0 ≥ 48 then (some (decide (a0 ≤ 57))) else (some false))
set_option maxHeartbeats 8000000 in
set_option maxRecDepth 100000 in
theorem quant_edge.calls (a0 : Int) (r : Bool) (w : World) (h : quant_edge.f a0 = some r) :
  Calls Tryd.prog 72 #[.int .u8 a0] w fun e w' => e = .returned (.bool r) ∧ Drawn0 w w':=by
 have H : (if a0 ≥ 97 then (if a0 ≤ 122 then (some true) else (if a0 ≥ 48 then (some (decide (a0 ≤ 57))) else (some false))) else (if a0 ≥ 48 then (some (decide (a0 ≤ 57))) else (some false))) = some r:=h
 clear h
 by_cases c2 : a0 ≥ 97
 rotate_left
 ·rw [if_neg c2] at H
  have c2b0 : decide (97 ≤ a0) = false:=decide_eq_false c2
  clear c2
  by_cases c5 : a0 ≥ 48
  ·rw [if_pos c5] at H
   have c5b0 : decide (48 ≤ a0) = true:=decide_eq_true c5
   clear c5
   obtain rfl:=Option.some.inj H
   go_enter Tryd.func72,Tryd.ntmps72
   go_wp2
   go_ret
   exact ⟨by first|rfl|(simp;done)|(simp [*];done),by repeat (first|exact Drawn0.refl _|apply Drawn0.step)⟩
  rw [if_neg c5] at H
  have c5b0 : decide (48 ≤ a0) = false:=decide_eq_false c5
  clear c5
  obtain rfl:=Option.some.inj H
  go_enter Tryd.func72,Tryd.ntmps72
  go_wp2
  go_ret
  exact ⟨by first|rfl|(simp;done)|(simp [*];done),by repeat (first|exact Drawn0.refl _|apply Drawn0.step)⟩
 rw [if_pos c2] at H
 have c2b0 : decide (97 ≤ a0) = true:=decide_eq_true c2
 clear c2
 by_cases c3 : a0 ≤ 122
 ·rw [if_pos c3] at H
  have c3b0 : decide (a0 ≤ 122) = true:=decide_eq_true c3
  clear c3
  obtain rfl:=Option.some.inj H
  go_enter Tryd.func72,Tryd.ntmps72
  go_wp2
  go_ret
  exact ⟨by first|rfl|(simp;done)|(simp [*];done),by repeat (first|exact Drawn0.refl _|apply Drawn0.step)⟩
 rw [if_neg c3] at H
 have c3b0 : decide (a0 ≤ 122) = false:=decide_eq_false c3
 clear c3
 by_cases c4 : a0 ≥ 48
 ·rw [if_pos c4] at H
  have c4b0 : decide (48 ≤ a0) = true:=decide_eq_true c4
  clear c4
  obtain rfl:=Option.some.inj H
  go_enter Tryd.func72,Tryd.ntmps72
  go_wp2
  go_ret
  exact ⟨by first|rfl|(simp;done)|(simp [*];done),by repeat (first|exact Drawn0.refl _|apply Drawn0.step)⟩
 rw [if_neg c4] at H
 have c4b0 : decide (48 ≤ a0) = false:=decide_eq_false c4
 clear c4
 obtain rfl:=Option.some.inj H
 go_enter Tryd.func72,Tryd.ntmps72
 go_wp2
 go_ret
 exact ⟨by first|rfl|(simp;done)|(simp [*];done),by repeat (first|exact Drawn0.refl _|apply Drawn0.step)⟩
end Go.Proofs.YtniolbolfclhkaaDoor.Q
namespace Go.Proofs.YtniolbolfclhkaaDoor.Q
open Go.RowKit Go.Proofs.YtniolbolfclhkaaDoorW.PrintWords Go.Proofs.YtniolbolfclhkaaDoorW.PrintLast Go.Proofs.YtniolbolfclhkaaDoorW.PrintMore
attribute [local go_sem] max2_int min2_int max_two min_two max_three min_three max_four min_four   -- for this text's walks alone
set_option linter.unusedVariables false
set_option linter.unusedSimpArgs false
mutual
def quant_resource.l0 : Nat → List ByteArray → Int → Int → Option (Bool)
|0,_,_,_ => none
|k + 1,x10,x11,x12 => if x12 < x11 then (if 0 ≤ x12 then (if x12 < (x10.length : Int) then (if (rdOf ByteArray.empty x10 x12).toList = ([] : List UInt8) then (quant_resource.j1 k (rdOf ByteArray.empty x10 x12) x10 x11 x12 true) else (if 0 < ((rdOf ByteArray.empty x10 x12).size : Int) then ((quant_edge.f (bt (rdOf ByteArray.empty x10 x12) 0)).bind fun t476 => (if t476 = true then (if 0 ≤ (wrap64 (((rdOf ByteArray.empty x10 x12).size : Int) - 1)) then (if (wrap64 (((rdOf ByteArray.empty x10 x12).size : Int) - 1)) < ((rdOf ByteArray.empty x10 x12).size : Int) then ((quant_edge.f (bt (rdOf ByteArray.empty x10 x12) (wrap64 (((rdOf ByteArray.empty x10 x12).size : Int) - 1)))).bind fun t477 => (quant_resource.j1 k (rdOf ByteArray.empty x10 x12) x10 x11 x12 (!t477))) else (none)) else (none)) else (quant_resource.j1 k (rdOf ByteArray.empty x10 x12) x10 x11 x12 true))) else (none))) else (none)) else (none)) else (some true)
def quant_resource.j1 : Nat → ByteArray → List ByteArray → Int → Int → Bool → Option (Bool)
|0,_,_,_,_,_ => none
|k + 1,x4,x10,x11,x12,x32 => if x32 = true then (some false) else (quant_resource.l1 k x4 x10 x11 x12 (x4.size : Int) 0)
def quant_resource.l1 : Nat → ByteArray → List ByteArray → Int → Int → Int → Int → Option (Bool)
|0,_,_,_,_,_,_ => none
|k + 1,x4,x10,x11,x12,x34,x35 => if x35 < x34 then (if 0 ≤ x35 then (if x35 < (x4.size : Int) then ((quant_edge.f (bt x4 x35)).bind fun t478 => (if t478 = true then (quant_resource.l1 k x4 x10 x11 x12 x34 (wrap64 (x35 + 1))) else (if (bt x4 x35) = 45 then (quant_resource.l1 k x4 x10 x11 x12 x34 (wrap64 (x35 + 1))) else (some false)))) else (none)) else (none)) else (quant_resource.l0 k x10 x11 (wrap64 (x12 + 1)))
end
def quant_resource.f (k : Nat) (a0 : ByteArray) : Option (Bool) := if (a0.size : Int) > 48 then (some false) else ((strings_Split.f a0 (⟨#[46]⟩ : ByteArray)).bind fun t472 => (quant_resource.l0 k t472 (t472.length : Int) 0))
theorem quant_resource.mono_l : ∀ k, (∀ y0 y1 y2, LeO (quant_resource.l0 k y0 y1 y2) (quant_resource.l0 (k + 1) y0 y1 y2)) ∧ (∀ y0 y1 y2 y3 y4, LeO (quant_resource.j1 k y0 y1 y2 y3 y4) (quant_resource.j1 (k + 1) y0 y1 y2 y3 y4)) ∧ (∀ y0 y1 y2 y3 y4 y5, LeO (quant_resource.l1 k y0 y1 y2 y3 y4 y5) (quant_resource.l1 (k + 1) y0 y1 y2 y3 y4 y5))
|0 => ⟨fun _ _ _ r h => by simp [quant_resource.l0] at h,fun _ _ _ _ _ r h => by simp [quant_resource.j1] at h,fun _ _ _ _ _ _ r h => by simp [quant_resource.l1] at h⟩
|k + 1 => by
  obtain ⟨ih0,ih1,ih2⟩:=quant_resource.mono_l k
  refine ⟨?_,?_,?_⟩
  ·intro y0 y1 y2
   unfold quant_resource.l0
   repeat' first
  |(with_reducible exact ih0 _ _ _)
  |(with_reducible exact ih1 _ _ _ _ _)
  |(with_reducible exact ih2 _ _ _ _ _ _)
  |(with_reducible exact LeO.refl _)
  |(with_reducible exact LeO.none _)
  |(with_reducible refine LeO.ite ?_ ?_)
  |(with_reducible refine LeO.bind ?_ (fun _ => ?_))
  |exact ih0 _ _ _
  |exact ih1 _ _ _ _ _
  |exact ih2 _ _ _ _ _ _
  |exact LeO.none _
  |refine LeO.ite ?_ ?_
  |refine LeO.bind ?_ (fun _ => ?_)
  ·intro y0 y1 y2 y3 y4
   unfold quant_resource.j1
   repeat' first
  |(with_reducible exact ih0 _ _ _)
  |(with_reducible exact ih1 _ _ _ _ _)
  |(with_reducible exact ih2 _ _ _ _ _ _)
  |(with_reducible exact LeO.refl _)
  |(with_reducible exact LeO.none _)
  |(with_reducible refine LeO.ite ?_ ?_)
  |(with_reducible refine LeO.bind ?_ (fun _ => ?_))
  |exact ih0 _ _ _
  |exact ih1 _ _ _ _ _
  |exact ih2 _ _ _ _ _ _
  |exact LeO.none _
  |refine LeO.ite ?_ ?_
  |refine LeO.bind ?_ (fun _ => ?_)
  ·intro y0 y1 y2 y3 y4 y5
   unfold quant_resource.l1
   repeat' first
  |(with_reducible exact ih0 _ _ _)
  |(with_reducible exact ih1 _ _ _ _ _)
  |(with_reducible exact ih2 _ _ _ _ _ _)
  |(with_reducible exact LeO.refl _)
  |(with_reducible exact LeO.none _)
  |(with_reducible refine LeO.ite ?_ ?_)
  |(with_reducible refine LeO.bind ?_ (fun _ => ?_))
  |exact ih0 _ _ _
  |exact ih1 _ _ _ _ _
  |exact ih2 _ _ _ _ _ _
  |exact LeO.none _
  |refine LeO.ite ?_ ?_
  |refine LeO.bind ?_ (fun _ => ?_)
theorem quant_resource.mono : ∀ a0 k, LeO (quant_resource.f k a0) (quant_resource.f (k + 1) a0) := by
 intro a0 k
 obtain ⟨ih0,ih1,ih2⟩:=quant_resource.mono_l k
 unfold quant_resource.f
 repeat' first
  |(with_reducible exact ih0 _ _ _)
  |(with_reducible exact ih1 _ _ _ _ _)
  |(with_reducible exact ih2 _ _ _ _ _ _)
  |(with_reducible exact LeO.refl _)
  |(with_reducible exact LeO.none _)
  |(with_reducible refine LeO.ite ?_ ?_)
  |(with_reducible refine LeO.bind ?_ (fun _ => ?_))
  |exact ih0 _ _ _
  |exact ih1 _ _ _ _ _
  |exact ih2 _ _ _ _ _ _
  |exact LeO.none _
  |refine LeO.ite ?_ ?_
  |refine LeO.bind ?_ (fun _ => ?_)
set_option maxHeartbeats 8000000 in
set_option maxRecDepth 100000 in
theorem quant_resource.calls (k : Nat) (a0 : ByteArray) (r : Bool) (w : World) (h : quant_resource.f k a0 = some r) (hG : Glob w) :
  Calls Tryd.prog 66 #[.string a0] w fun e w' => e = .returned (.bool r) ∧ Below w.heap.size w w':=by
 have HB:=Aside0.mk (Below.refl w.heap.size w)
 have H : (if (a0.size : Int) > 48 then (some false) else ((strings_Split.f a0 (⟨#[46]⟩ : ByteArray)).bind fun t472 => (quant_resource.l0 k t472 (t472.length : Int) 0))) = some r:=h
 clear h
 by_cases c2 : (a0.size : Int) > 48
 ·rw [if_pos c2] at H
  have c2b0 : decide (48 < (a0.size : Int)) = true:=decide_eq_true c2
  have c2b1 : decide (48 < a0.size) = true:=decide_eq_true (by omega)
  clear c2
  obtain rfl:=Option.some.inj H
  go_enter Tryd.func66,Tryd.ntmps66
  go_wp2
  go_ret
  exact ⟨by first|rfl|(simp [errW_none,errW_some] <;> rfl)|(simp [*,errW_none,errW_some] <;> rfl),by repeat (first|(with_reducible first|exact HB.out|apply below_alloc|apply pw_below_drewN|apply below_drew1)|exact HB.out)⟩
 rw [if_neg c2] at H
 have c2b0 : decide (48 < (a0.size : Int)) = false:=decide_eq_false c2
 have c2b1 : decide (48 < a0.size) = false:=decide_eq_false (by omega)
 clear c2
 replace H:=Option.bind_eq_some_iff.mp H
 obtain ⟨t472,A30,H⟩:=H
 replace H : (quant_resource.l0 k t472 (t472.length : Int) 0) = some r:=H
 have A3:=Aside0.mk A30
 clear A30
 have H':=Aside0.mk H
 clear H
 go_enter Tryd.func66,Tryd.ntmps66
 go_wp2_with (first|((with_reducible refine gate_callee (f:=68) rfl ?_);refine goesL_ (some 10) rfl rfl Tryd.func68 (by kernel_rfl) rfl #[.string a0,.string (⟨#[46]⟩ : ByteArray)] rfl (by (try simp only [List.map_toArray,List.map_cons,List.map_nil]);first|done|rfl|(simp only [List.length_drop,List.length_take];rfl)) ?_;(with_reducible refine (strings_Split.calls a0 (⟨#[46]⟩ : ByteArray) t472 _ A3.out (Glob.below hG (by repeat (first|(with_reducible first|exact HB.out|apply below_alloc|apply pw_below_drewN|apply below_drew1)|exact HB.out)))).mono ?_);rintro e w4 ⟨v473,rfl,ho0,hb⟩;refine ⟨_,rfl,?_⟩;have n0_:=Aside0.mk (Kd.R_lower ho0 (below_size (by repeat (first|(with_reducible first|exact HB.out|apply below_alloc|apply pw_below_drewN|apply below_drew1)|exact HB.out))));have n1_:=Aside0.mk (below_step (by repeat (first|(with_reducible first|exact HB.out|apply below_alloc|apply pw_below_drewN|apply below_drew1)|exact HB.out)) hb);clear HB;have HO474:=n0_;have HB:=n1_;clear n0_ n1_;(try clear hb);(try clear hb2);(try clear hk);(try clear hi);(try clear ho0);obtain ⟨Ao5,co5,eo5⟩:=Kd.R_slice HO474.out;subst eo5))
 go_loopg [12] k (fun kq v12 w' => ∃ (x12_1 : Int),v12 = .int .i64 x12_1 ∧ Aside0 (quant_resource.l0 kq t472 (t472.length : Int) x12_1 = some r) ∧ Aside0 (kq ≤ k) ∧ Aside0 (Kd.R Kd.string 9 w' w.heap.size (fun _ => True) (.slice Ao5 t472.length co5) t472) ∧ Aside0 (Below w.heap.size w w'))
 case atStart => exact ⟨(0),(by first|rfl|(simp;done)|(simp [*];done)|(simp;rw [Bool.eq_iff_iff];simp;done)|(rw [Bool.eq_iff_iff];simp;done)),H',⟨Nat.le_refl _⟩,⟨by (with_reducible repeat (first|apply Kd.R_alloc|apply Kd.R_drewN|apply Kd.R_drew));exact HO474.out⟩,⟨by repeat (first|(with_reducible first|exact HB.out|apply below_alloc|apply pw_below_drewN|apply below_drew1)|exact HB.out)⟩⟩
 case round =>
  clear H';(try clear c2);(try clear c2b0);(try clear c2b1);(try clear p2)
  obtain ⟨x12_1,rfl,HA,HK1,HO_10,HB⟩:=hrel
  cases gk with
 |zero => exact absurd HA.out (by simp [quant_resource.l0])
 |succ k1 =>
   have H:=HA.out
   clear HA
   simp only [quant_resource.l0] at H
   by_cases c6 : x12_1 < (t472.length : Int)
   rotate_left
   ·rw [if_neg c6] at H
    have c6b0 : decide (x12_1 < (t472.length : Int)) = false:=decide_eq_false c6
    clear c6
    obtain rfl:=Option.some.inj H
    go_wp2
    go_ret
    exact ⟨by first|rfl|(simp [errW_none,errW_some] <;> rfl)|(simp [*,errW_none,errW_some] <;> rfl),by repeat (first|(with_reducible first|exact HB.out|apply below_alloc|apply pw_below_drewN|apply below_drew1)|exact HB.out)⟩
   rw [if_pos c6] at H
   have c6b0 : decide (x12_1 < (t472.length : Int)) = true:=decide_eq_true c6
   clear c6
   by_cases c7 : 0 ≤ x12_1
   rotate_left
   ·rw [if_neg c7] at H
    exact absurd H (by simp)
   rw [if_pos c7] at H
   have c7b0 : decide (0 ≤ x12_1) = true:=decide_eq_true c7
   clear c7
   by_cases c8 : x12_1 < (t472.length : Int)
   rotate_left
   ·rw [if_neg c8] at H
    exact absurd H (by simp)
   rw [if_pos c8] at H
   have c8b0 : decide (x12_1 < (t472.length : Int)) = true:=decide_eq_true c8
   clear c8
   have HC9:=Aside0.mk H
   clear H
   have p475 : 0 ≤ (x12_1 : Int):=of_decide_eq_true (by first|(with_reducible assumption)|assumption)
   have q475 : x12_1 < (t472.length : Int):=of_decide_eq_true (by first|(with_reducible assumption)|assumption)
   obtain ⟨ad475,e475,hx475_0⟩:=Kd.at_string (Kd.R_reads' HO_10.out).2.2 x12_1 p475 q475
   cases e475
   replace p475:=eq_true p475
   replace q475:=eq_true q475
   go_upto_region 6 with (fail)
   go_cut [32] (fun v32 wc => ∃ (kq : Nat) (x32_8 : Bool),v32 = .bool x32_8 ∧ Aside0 (quant_resource.j1 kq (rdOf ByteArray.empty t472 x12_1) t472 (t472.length : Int) x12_1 x32_8 = some r) ∧ Aside0 (kq ≤ k1) ∧ Aside0 (Kd.R Kd.string 9 wc w.heap.size (fun _ => True) (.slice (some ad475) t472.length co5) t472) ∧ Aside0 (Below w.heap.size w wc))
   case first =>
    have H:=HC9.out
    clear HC9
    by_cases c10 : (rdOf ByteArray.empty t472 x12_1).toList = ([] : List UInt8)
    ·rw [if_pos c10] at H
     have c10b0 : ((rdOf ByteArray.empty t472 x12_1).toList == ([] : List UInt8)) = true:=beq_iff_eq.mpr c10
     have c10b1 : ((rdOf ByteArray.empty t472 x12_1).toList != ([] : List UInt8)) = false:=bne_eq_false_iff_eq.mpr c10
     clear c10
     (first|rw [c10b0]|(simp only [i64_w,i32_w];rw [c10b0])|skip)
     have H':=Aside0.mk H
     clear H
     go_wp2
     go_meet
     case rel => exact ⟨_,(true),(by first|rfl|(simp;done)|(simp [*];done)|(simp;rw [Bool.eq_iff_iff];simp;done)|(rw [Bool.eq_iff_iff];simp;done)),H',⟨by have:=HK1.out;first|omega|exact Nat.le_refl _⟩,⟨by (with_reducible repeat (first|apply Kd.R_alloc|apply Kd.R_drewN|apply Kd.R_drew));exact HO_10.out⟩,⟨by repeat (first|(with_reducible first|exact HB.out|apply below_alloc|apply pw_below_drewN|apply below_drew1)|exact HB.out)⟩⟩
    rw [if_neg c10] at H
    have c10b0 : ((rdOf ByteArray.empty t472 x12_1).toList == ([] : List UInt8)) = false:=beq_eq_false_iff_ne.mpr c10
    have c10b1 : ((rdOf ByteArray.empty t472 x12_1).toList != ([] : List UInt8)) = true:=bne_iff_ne.mpr c10
    (first|rw [c10b0]|(simp only [i64_w,i32_w];rw [c10b0])|skip)
    by_cases c11 : 0 < ((rdOf ByteArray.empty t472 x12_1).size : Int)
    rotate_left
    ·rw [if_neg c11] at H
     exact absurd H (by simp)
    rw [if_pos c11] at H
    have c11b0 : decide (0 < ((rdOf ByteArray.empty t472 x12_1).size : Int)) = true:=decide_eq_true c11
    have c11b1 : decide (0 < (rdOf ByteArray.empty t472 x12_1).size) = true:=decide_eq_true (by omega)
    clear c11
    replace H:=Option.bind_eq_some_iff.mp H
    obtain ⟨t476,A130,H⟩:=H
    replace H : (if t476 = true then (if 0 ≤ (wrap64 (((rdOf ByteArray.empty t472 x12_1).size : Int) - 1)) then (if (wrap64 (((rdOf ByteArray.empty t472 x12_1).size : Int) - 1)) < ((rdOf ByteArray.empty t472 x12_1).size : Int) then ((quant_edge.f (bt (rdOf ByteArray.empty t472 x12_1) (wrap64 (((rdOf ByteArray.empty t472 x12_1).size : Int) - 1)))).bind fun t477 => (quant_resource.j1 k1 (rdOf ByteArray.empty t472 x12_1) t472 (t472.length : Int) x12_1 (!t477))) else (none)) else (none)) else (quant_resource.j1 k1 (rdOf ByteArray.empty t472 x12_1) t472 (t472.length : Int) x12_1 true)) = some r:=H
    have A13:=Aside0.mk A130
    clear A130
    by_cases c14 : t476 = true
    rotate_left
    ·replace c14:=Bool.eq_false_iff.mpr c14
     subst c14
     have H1 : (quant_resource.j1 k1 (rdOf ByteArray.empty t472 x12_1) t472 (t472.length : Int) x12_1 true) = some r:=by rw [if_neg (show ¬ (false = true) by decide)] at H;exact H
     clear H;have H:=H1;clear H1
     have H':=Aside0.mk H
     clear H
     have p12 : 0 ≤ (0 : Int):=(by omega)
     have q12 : 0 < (rdOf ByteArray.empty t472 x12_1).size:=(by have : (0 : Int) < ((rdOf ByteArray.empty t472 x12_1).size : Int):=of_decide_eq_true (by first|(with_reducible assumption)|assumption);omega)
     have hx12 : ∀ h : 0 < (rdOf ByteArray.empty t472 x12_1).size,(((rdOf ByteArray.empty t472 x12_1)[0]'h).toNat : Int) = bt (rdOf ByteArray.empty t472 x12_1) 0:=bt_at (rdOf ByteArray.empty t472 x12_1) 0
     clear p12
     have qi12 : (0 < ((rdOf ByteArray.empty t472 x12_1).size : Int)) = True:=eq_true (of_decide_eq_true (by first|(with_reducible assumption)|assumption))
     replace q12:=eq_true q12
     go_wp2_with (first|(go_at_call 72;(with_reducible refine (quant_edge.calls (bt (rdOf ByteArray.empty t472 x12_1) 0) false _ A13.out).mono ?_);rintro e w' ⟨rfl,⟨nd,rfl⟩⟩))
     go_meet
     case rel => exact ⟨_,(true),(by first|rfl|(simp;done)|(simp [*];done)|(simp;rw [Bool.eq_iff_iff];simp;done)|(rw [Bool.eq_iff_iff];simp;done)),H',⟨by have:=HK1.out;first|omega|exact Nat.le_refl _⟩,⟨by (with_reducible repeat (first|apply Kd.R_alloc|apply Kd.R_drewN|apply Kd.R_drew));exact HO_10.out⟩,⟨by repeat (first|(with_reducible first|exact HB.out|apply below_alloc|apply pw_below_drewN|apply below_drew1)|exact HB.out)⟩⟩
    subst c14
    have H1 : (if 0 ≤ (wrap64 (((rdOf ByteArray.empty t472 x12_1).size : Int) - 1)) then (if (wrap64 (((rdOf ByteArray.empty t472 x12_1).size : Int) - 1)) < ((rdOf ByteArray.empty t472 x12_1).size : Int) then ((quant_edge.f (bt (rdOf ByteArray.empty t472 x12_1) (wrap64 (((rdOf ByteArray.empty t472 x12_1).size : Int) - 1)))).bind fun t477 => (quant_resource.j1 k1 (rdOf ByteArray.empty t472 x12_1) t472 (t472.length : Int) x12_1 (!t477))) else (none)) else (none)) = some r:=by rw [if_pos rfl] at H;exact H
    clear H;have H:=H1;clear H1
    obtain ⟨ji15,hji15⟩ : ∃ j_ : Int,(wrap64 (((rdOf ByteArray.empty t472 x12_1).size : Int) - 1)) = j_:=⟨_,rfl⟩
    replace H : (if 0 ≤ (ji15) then (if (ji15) < ((rdOf ByteArray.empty t472 x12_1).size : Int) then ((quant_edge.f (bt (rdOf ByteArray.empty t472 x12_1) (ji15))).bind fun t477 => (quant_resource.j1 k1 (rdOf ByteArray.empty t472 x12_1) t472 (t472.length : Int) x12_1 (!t477))) else (none)) else (none)) = some r:=by first|(rw [hji15] at H;exact H)|(simp only [hji15] at H ⊢;exact H)
    (try rw [hji15] at A13)
    have hji15w : (IntKind.i64.wrap (((rdOf ByteArray.empty t472 x12_1).size : Int) - 1)) = ji15:=(i64_w _).trans hji15
    by_cases c16 : 0 ≤ (ji15)
    rotate_left
    ·rw [if_neg c16] at H
     exact absurd H (by simp)
    rw [if_pos c16] at H
    have c16b0 : decide (0 ≤ (ji15)) = true:=decide_eq_true c16
    clear c16
    by_cases c17 : (ji15) < ((rdOf ByteArray.empty t472 x12_1).size : Int)
    rotate_left
    ·rw [if_neg c17] at H
     exact absurd H (by simp)
    rw [if_pos c17] at H
    have c17b0 : decide ((ji15) < ((rdOf ByteArray.empty t472 x12_1).size : Int)) = true:=decide_eq_true c17
    clear c17
    replace H:=Option.bind_eq_some_iff.mp H
    obtain ⟨t477,A190,H⟩:=H
    replace H : (quant_resource.j1 k1 (rdOf ByteArray.empty t472 x12_1) t472 (t472.length : Int) x12_1 (!t477)) = some r:=H
    have A19:=Aside0.mk A190
    clear A190
    have H':=Aside0.mk H
    clear H
    have p12 : 0 ≤ (0 : Int):=(by omega)
    have q12 : 0 < (rdOf ByteArray.empty t472 x12_1).size:=(by have : (0 : Int) < ((rdOf ByteArray.empty t472 x12_1).size : Int):=of_decide_eq_true (by first|(with_reducible assumption)|assumption);omega)
    have hx12 : ∀ h : 0 < (rdOf ByteArray.empty t472 x12_1).size,(((rdOf ByteArray.empty t472 x12_1)[0]'h).toNat : Int) = bt (rdOf ByteArray.empty t472 x12_1) 0:=bt_at (rdOf ByteArray.empty t472 x12_1) 0
    clear p12
    have qi12 : (0 < ((rdOf ByteArray.empty t472 x12_1).size : Int)) = True:=eq_true (of_decide_eq_true (by first|(with_reducible assumption)|assumption))
    replace q12:=eq_true q12
    go_wp2_with (first|(go_at_call 72;(with_reducible refine (quant_edge.calls (bt (rdOf ByteArray.empty t472 x12_1) 0) true _ A13.out).mono ?_);rintro e w' ⟨rfl,⟨nd,rfl⟩⟩;have p18 : 0 ≤ ((ji15) : Int):=of_decide_eq_true (by first|(with_reducible assumption)|assumption);have q18 : (ji15) < ((rdOf ByteArray.empty t472 x12_1).size : Int):=of_decide_eq_true (by first|(with_reducible assumption)|assumption);have hx18:=bt_at (rdOf ByteArray.empty t472 x12_1) (ji15);replace p18:=eq_true p18;replace q18:=eq_true q18)|(go_at_call 72;(with_reducible refine (quant_edge.calls (bt (rdOf ByteArray.empty t472 x12_1) (ji15)) t477 _ A19.out).mono ?_);rintro e w' ⟨rfl,⟨nd,rfl⟩⟩))
    go_meet
    case rel => exact ⟨_,(!t477),(by first|rfl|(simp;done)|(simp [*];done)|(simp;rw [Bool.eq_iff_iff];simp;done)|(rw [Bool.eq_iff_iff];simp;done)),H',⟨by have:=HK1.out;first|omega|exact Nat.le_refl _⟩,⟨by (with_reducible repeat (first|apply Kd.R_alloc|apply Kd.R_drewN|apply Kd.R_drew));exact HO_10.out⟩,⟨by repeat (first|(with_reducible first|exact HB.out|apply below_alloc|apply pw_below_drewN|apply below_drew1)|exact HB.out)⟩⟩
   case rest =>
    clear HC9;(try clear c1);(try clear p1);(try clear q1);(try clear hx1);(try clear qi1);(try clear c2);(try clear c2b0);(try clear c2b1);(try clear p2);(try clear p4);(try clear q4);(try clear hx4);(try clear c6);(try clear c6b0);(try clear p6);(try clear c7);(try clear c7b0);(try clear c8);(try clear c8b0);(try clear c10);(try clear c10b0);(try clear c10b1);(try clear c11);(try clear c11b0);(try clear c11b1);(try clear p12);(try clear q12);(try clear hx12);(try clear qi12);(try clear c14);(try clear c16);(try clear c16b0);(try clear c17);(try clear c17b0);(try clear p18);(try clear q18);(try clear hx18);(try clear hx475_0);(try clear p12);(try clear p18);(try clear p2);(try clear p475);(try clear q12);(try clear q18);(try clear q475)
    obtain ⟨kq,x32_8,rfl,HA,HJ8,HO_10,HB⟩:=hcut
    cases kq with
   |zero => exact absurd HA.out (by simp [quant_resource.j1])
   |succ kj8 =>
     have H:=HA.out
     clear HA
     simp only [quant_resource.j1] at H
     by_cases c20 : x32_8 = true
     ·subst c20
      have H1 : (some false) = some r:=by rw [if_pos rfl] at H;exact H
      clear H;have H:=H1;clear H1
      obtain rfl:=Option.some.inj H
      go_wp2
      go_ret
      exact ⟨by first|rfl|(simp [errW_none,errW_some] <;> rfl)|(simp [*,errW_none,errW_some] <;> rfl),by repeat (first|(with_reducible first|exact HB.out|apply below_alloc|apply pw_below_drewN|apply below_drew1)|exact HB.out)⟩
     replace c20:=Bool.eq_false_iff.mpr c20
     subst c20
     have H1 : (quant_resource.l1 kj8 (rdOf ByteArray.empty t472 x12_1) t472 (t472.length : Int) x12_1 ((rdOf ByteArray.empty t472 x12_1).size : Int) 0) = some r:=by rw [if_neg (show ¬ (false = true) by decide)] at H;exact H
     clear H;have H:=H1;clear H1
     have H':=Aside0.mk H
     clear H
     go_wp2
     go_loopg [35] kj8 (fun kq v35 w' => ∃ (x35_3 : Int),v35 = .int .i64 x35_3 ∧ Aside0 (quant_resource.l1 kq (rdOf ByteArray.empty t472 x12_1) t472 (t472.length : Int) x12_1 ((rdOf ByteArray.empty t472 x12_1).size : Int) x35_3 = some r) ∧ Aside0 (kq ≤ kj8) ∧ Aside0 (Kd.R Kd.string 9 w' w.heap.size (fun _ => True) (.slice (some ad475) t472.length co5) t472) ∧ Aside0 (Below w.heap.size w w'))
     case atStart => exact ⟨(0),(by first|rfl|(simp;done)|(simp [*];done)|(simp;rw [Bool.eq_iff_iff];simp;done)|(rw [Bool.eq_iff_iff];simp;done)),H',⟨Nat.le_refl _⟩,⟨by (with_reducible repeat (first|apply Kd.R_alloc|apply Kd.R_drewN|apply Kd.R_drew));exact HO_10.out⟩,⟨by repeat (first|(with_reducible first|exact HB.out|apply below_alloc|apply pw_below_drewN|apply below_drew1)|exact HB.out)⟩⟩
     case round =>
      clear H';(try clear c1);(try clear p1);(try clear q1);(try clear hx1);(try clear qi1);(try clear c2);(try clear c2b0);(try clear c2b1);(try clear p2);(try clear p4);(try clear q4);(try clear hx4);(try clear c6);(try clear c6b0);(try clear p6);(try clear c7);(try clear c7b0);(try clear c8);(try clear c8b0);(try clear c10);(try clear c10b0);(try clear c10b1);(try clear c11);(try clear c11b0);(try clear c11b1);(try clear p12);(try clear q12);(try clear hx12);(try clear qi12);(try clear c14);(try clear c16);(try clear c16b0);(try clear c17);(try clear c17b0);(try clear p18);(try clear q18);(try clear hx18);(try clear c20);(try clear hx475_0);(try clear p1);(try clear p12);(try clear p18);(try clear p2);(try clear p4);(try clear p475);(try clear p6);(try clear q1);(try clear q12);(try clear q18);(try clear q4);(try clear q475)
      obtain ⟨x35_3,rfl,HA,HK3,HO_10,HB⟩:=hrel
      cases gk with
     |zero => exact absurd HA.out (by simp [quant_resource.l1])
     |succ k3 =>
       have H:=HA.out
       clear HA
       simp only [quant_resource.l1] at H
       by_cases c21 : x35_3 < ((rdOf ByteArray.empty t472 x12_1).size : Int)
       rotate_left
       ·rw [if_neg c21] at H
        have c21b0 : decide (x35_3 < ((rdOf ByteArray.empty t472 x12_1).size : Int)) = false:=decide_eq_false c21
        clear c21
        have H':=Aside0.mk H
        clear H
        go_wp2
        go_roundg k3
        case measure => have:=HK1.out;have:=HJ8.out;have:=HK3.out;omega
        case rel => exact ⟨(wrap64 (x12_1 + 1)),(by first|rfl|(simp;done)|(simp [*];done)|(simp;rw [Bool.eq_iff_iff];simp;done)|(rw [Bool.eq_iff_iff];simp;done)),H',⟨by have:=HK1.out;have:=HJ8.out;have:=HK3.out;omega⟩,⟨by (with_reducible repeat (first|apply Kd.R_alloc|apply Kd.R_drewN|apply Kd.R_drew));exact HO_10.out⟩,⟨by repeat (first|(with_reducible first|exact HB.out|apply below_alloc|apply pw_below_drewN|apply below_drew1)|exact HB.out)⟩⟩
       rw [if_pos c21] at H
       have c21b0 : decide (x35_3 < ((rdOf ByteArray.empty t472 x12_1).size : Int)) = true:=decide_eq_true c21
       clear c21
       by_cases c22 : 0 ≤ x35_3
       rotate_left
       ·rw [if_neg c22] at H
        exact absurd H (by simp)
       rw [if_pos c22] at H
       have c22b0 : decide (0 ≤ x35_3) = true:=decide_eq_true c22
       clear c22
       by_cases c23 : x35_3 < ((rdOf ByteArray.empty t472 x12_1).size : Int)
       rotate_left
       ·rw [if_neg c23] at H
        exact absurd H (by simp)
       rw [if_pos c23] at H
       have c23b0 : decide (x35_3 < ((rdOf ByteArray.empty t472 x12_1).size : Int)) = true:=decide_eq_true c23
       clear c23
       replace H:=Option.bind_eq_some_iff.mp H
       obtain ⟨t478,A250,H⟩:=H
       replace H : (if t478 = true then (quant_resource.l1 k3 (rdOf ByteArray.empty t472 x12_1) t472 (t472.length : Int) x12_1 ((rdOf ByteArray.empty t472 x12_1).size : Int) (wrap64 (x35_3 + 1))) else (if (bt (rdOf ByteArray.empty t472 x12_1) x35_3) = 45 then (quant_resource.l1 k3 (rdOf ByteArray.empty t472 x12_1) t472 (t472.length : Int) x12_1 ((rdOf ByteArray.empty t472 x12_1).size : Int) (wrap64 (x35_3 + 1))) else (some false))) = some r:=H
       have A25:=Aside0.mk A250
       clear A250
       by_cases c26 : t478 = true
       ·subst c26
        have H1 : (quant_resource.l1 k3 (rdOf ByteArray.empty t472 x12_1) t472 (t472.length : Int) x12_1 ((rdOf ByteArray.empty t472 x12_1).size : Int) (wrap64 (x35_3 + 1))) = some r:=by rw [if_pos rfl] at H;exact H
        clear H;have H:=H1;clear H1
        have H':=Aside0.mk H
        clear H
        have p24 : 0 ≤ (x35_3 : Int):=of_decide_eq_true (by first|(with_reducible assumption)|assumption)
        have q24 : x35_3 < ((rdOf ByteArray.empty t472 x12_1).size : Int):=of_decide_eq_true (by first|(with_reducible assumption)|assumption)
        have hx24:=bt_at (rdOf ByteArray.empty t472 x12_1) x35_3
        replace p24:=eq_true p24
        replace q24:=eq_true q24
        go_wp2_with (first|((with_reducible refine gate_callee (f:=72) rfl ?_);refine goesL_ (some 41) rfl rfl Tryd.func72 (by kernel_rfl) rfl #[.int .u8 (bt (rdOf ByteArray.empty t472 x12_1) x35_3)] rfl (by (try simp only [List.map_toArray,List.map_cons,List.map_nil]);first|done|rfl|(simp only [List.length_drop,List.length_take];rfl)) ?_;(with_reducible refine (quant_edge.calls (bt (rdOf ByteArray.empty t472 x12_1) x35_3) true _ A25.out).mono ?_);rintro e w' ⟨rfl,⟨nd,rfl⟩⟩;refine ⟨_,rfl,?_⟩))
        go_roundg k3
        case measure => have:=HK1.out;have:=HJ8.out;have:=HK3.out;omega
        case rel => exact ⟨(wrap64 (x35_3 + 1)),(by first|rfl|(simp;done)|(simp [*];done)|(simp;rw [Bool.eq_iff_iff];simp;done)|(rw [Bool.eq_iff_iff];simp;done)),H',⟨by have:=HK1.out;have:=HJ8.out;have:=HK3.out;omega⟩,⟨by (with_reducible repeat (first|apply Kd.R_alloc|apply Kd.R_drewN|apply Kd.R_drew));exact HO_10.out⟩,⟨by repeat (first|(with_reducible first|exact HB.out|apply below_alloc|apply pw_below_drewN|apply below_drew1)|exact HB.out)⟩⟩
       replace c26:=Bool.eq_false_iff.mpr c26
       subst c26
       have H1 : (if (bt (rdOf ByteArray.empty t472 x12_1) x35_3) = 45 then (quant_resource.l1 k3 (rdOf ByteArray.empty t472 x12_1) t472 (t472.length : Int) x12_1 ((rdOf ByteArray.empty t472 x12_1).size : Int) (wrap64 (x35_3 + 1))) else (some false)) = some r:=by rw [if_neg (show ¬ (false = true) by decide)] at H;exact H
       clear H;have H:=H1;clear H1
       by_cases c28 : (bt (rdOf ByteArray.empty t472 x12_1) x35_3) = 45
       rotate_left
       ·rw [if_neg c28] at H
        have c28b0 : ((bt (rdOf ByteArray.empty t472 x12_1) x35_3) == 45) = false:=beq_eq_false_iff_ne.mpr c28
        have c28b1 : ((bt (rdOf ByteArray.empty t472 x12_1) x35_3) != 45) = true:=bne_iff_ne.mpr c28
        obtain rfl:=Option.some.inj H
        have p24 : 0 ≤ (x35_3 : Int):=of_decide_eq_true (by first|(with_reducible assumption)|assumption)
        have q24 : x35_3 < ((rdOf ByteArray.empty t472 x12_1).size : Int):=of_decide_eq_true (by first|(with_reducible assumption)|assumption)
        have hx24:=bt_at (rdOf ByteArray.empty t472 x12_1) x35_3
        replace p24:=eq_true p24
        replace q24:=eq_true q24
        go_wp2_with (first|((with_reducible refine gate_callee (f:=72) rfl ?_);refine goesL_ (some 41) rfl rfl Tryd.func72 (by kernel_rfl) rfl #[.int .u8 (bt (rdOf ByteArray.empty t472 x12_1) x35_3)] rfl (by (try simp only [List.map_toArray,List.map_cons,List.map_nil]);first|done|rfl|(simp only [List.length_drop,List.length_take];rfl)) ?_;(with_reducible refine (quant_edge.calls (bt (rdOf ByteArray.empty t472 x12_1) x35_3) false _ A25.out).mono ?_);rintro e w' ⟨rfl,⟨nd,rfl⟩⟩;refine ⟨_,rfl,?_⟩;have p27 : 0 ≤ (x35_3 : Int):=of_decide_eq_true (by first|(with_reducible assumption)|assumption);have q27 : x35_3 < ((rdOf ByteArray.empty t472 x12_1).size : Int):=of_decide_eq_true (by first|(with_reducible assumption)|assumption);have hx27:=bt_at (rdOf ByteArray.empty t472 x12_1) x35_3;replace p27:=eq_true p27;replace q27:=eq_true q27))
        go_ret
        exact ⟨by first|rfl|(simp [errW_none,errW_some] <;> rfl)|(simp [*,errW_none,errW_some] <;> rfl),by repeat (first|(with_reducible first|exact HB.out|apply below_alloc|apply pw_below_drewN|apply below_drew1)|exact HB.out)⟩
       rw [if_pos c28] at H
       have c28b0 : ((bt (rdOf ByteArray.empty t472 x12_1) x35_3) == 45) = true:=beq_iff_eq.mpr c28
       have c28b1 : ((bt (rdOf ByteArray.empty t472 x12_1) x35_3) != 45) = false:=bne_eq_false_iff_eq.mpr c28
       clear c28
       have H':=Aside0.mk H
       clear H
       have p24 : 0 ≤ (x35_3 : Int):=of_decide_eq_true (by first|(with_reducible assumption)|assumption)
       have q24 : x35_3 < ((rdOf ByteArray.empty t472 x12_1).size : Int):=of_decide_eq_true (by first|(with_reducible assumption)|assumption)
       have hx24:=bt_at (rdOf ByteArray.empty t472 x12_1) x35_3
       replace p24:=eq_true p24
       replace q24:=eq_true q24
       go_wp2_with (first|((with_reducible refine gate_callee (f:=72) rfl ?_);refine goesL_ (some 41) rfl rfl Tryd.func72 (by kernel_rfl) rfl #[.int .u8 (bt (rdOf ByteArray.empty t472 x12_1) x35_3)] rfl (by (try simp only [List.map_toArray,List.map_cons,List.map_nil]);first|done|rfl|(simp only [List.length_drop,List.length_take];rfl)) ?_;(with_reducible refine (quant_edge.calls (bt (rdOf ByteArray.empty t472 x12_1) x35_3) false _ A25.out).mono ?_);rintro e w' ⟨rfl,⟨nd,rfl⟩⟩;refine ⟨_,rfl,?_⟩;have p27 : 0 ≤ (x35_3 : Int):=of_decide_eq_true (by first|(with_reducible assumption)|assumption);have q27 : x35_3 < ((rdOf ByteArray.empty t472 x12_1).size : Int):=of_decide_eq_true (by first|(with_reducible assumption)|assumption);have hx27:=bt_at (rdOf ByteArray.empty t472 x12_1) x35_3;replace p27:=eq_true p27;replace q27:=eq_true q27))
       go_roundg k3
       case measure => have:=HK1.out;have:=HJ8.out;have:=HK3.out;omega
       case rel => exact ⟨(wrap64 (x35_3 + 1)),(by first|rfl|(simp;done)|(simp [*];done)|(simp;rw [Bool.eq_iff_iff];simp;done)|(rw [Bool.eq_iff_iff];simp;done)),H',⟨by have:=HK1.out;have:=HJ8.out;have:=HK3.out;omega⟩,⟨by (with_reducible repeat (first|apply Kd.R_alloc|apply Kd.R_drewN|apply Kd.R_drew));exact HO_10.out⟩,⟨by repeat (first|(with_reducible first|exact HB.out|apply below_alloc|apply pw_below_drewN|apply below_drew1)|exact HB.out)⟩⟩
end Go.Proofs.YtniolbolfclhkaaDoor.Q
