/- Walks and plain laws that the claim stands on: each theorem named calls says that a call of a function returns what its f computes; the others are plain laws of these f, and the words that the walks use. -/
import Derived.Test.YtnlbfomlfhigcaaFuseExactsV2
import Derived.Test.YtnlbfomlfhigcaaFuseExactsV13
import Derived.Test.YtnlbfomlfhigcaaFuseExactsV19
namespace Go.Proofs.Ytnlbfomlfhigcaa.Q
open Go.RowKit Go.Proofs.YtnlbfomlfhigcaaW.PrintWords Go.Proofs.YtnlbfomlfhigcaaW.PrintLast Go.Proofs.YtnlbfomlfhigcaaW.PrintMore
attribute [local go_sem] max2_int min2_int max_two min_two max_three min_three max_four min_four
set_option linter.unusedVariables false
set_option linter.unusedSimpArgs false
def vernierref13_Exact.f (k : Nat) (a0_0 : Int) (a0_1 : Bool) (a0_2 : Int) (a0_3 : Int) (a0_4 : Int) (a0_5 : Bool) (a1_0 : Int) (a1_1 : Bool) (a1_2 : Int) (a1_3 : Int) (a1_4 : Int) (a1_5 : Bool) : Option (Int × Bool × Int × Int × Int × Bool × Int) := (vernierref07_Sound.f a0_0 a0_1 a0_2 a0_3 a0_4 a0_5).bind fun t885 => ((vernierref07_Sound.f a1_0 a1_1 a1_2 a1_3 a1_4 a1_5).bind fun t886 => (if t885 = true then (if t886 = true then (if a0_5 = true then (some (0, false, 0, 0, 0, false, 1)) else (if a1_5 = true then (some (0, false, 0, 0, 0, false, 1)) else ((vernierref09_Sum.f k a0_0 a0_1 a0_2 a0_3 a0_4 a0_5 a1_0 a1_1 a1_2 a1_3 a1_4 a1_5).bind fun bt887 => (some (bt887.1, bt887.2.1, bt887.2.2.1, bt887.2.2.2.1, bt887.2.2.2.2.1, bt887.2.2.2.2.2, 0))))) else (some (0, false, 0, 0, 0, false, 1))) else (some (0, false, 0, 0, 0, false, 1))))
set_option maxHeartbeats 8000000 in
set_option maxRecDepth 100000 in
theorem vernierref13_Exact.calls (k : Nat) (a0_0 : Int) (a0_1 : Bool) (a0_2 : Int) (a0_3 : Int) (a0_4 : Int) (a0_5 : Bool) (a1_0 : Int) (a1_1 : Bool) (a1_2 : Int) (a1_3 : Int) (a1_4 : Int) (a1_5 : Bool) (r1 : Int) (r2 : Bool) (r3 : Int) (r4 : Int) (r5 : Int) (r6 : Bool) (r7 : Int) (w : World) (h : vernierref13_Exact.f k a0_0 a0_1 a0_2 a0_3 a0_4 a0_5 a1_0 a1_1 a1_2 a1_3 a1_4 a1_5 = some (r1, r2, r3, r4, r5, r6, r7)) :
  Calls Try.prog 56 #[.agg #[.int .i64 a0_0, .bool a0_1, .int .i64 a0_2, .int .u64 a0_3, .int .u64 a0_4, .bool a0_5], .agg #[.int .i64 a1_0, .bool a1_1, .int .i64 a1_2, .int .u64 a1_3, .int .u64 a1_4, .bool a1_5]] w fun e w' => e = .returned (.tuple #[.agg #[.int .i64 r1, .bool r2, .int .i64 r3, .int .u64 r4, .int .u64 r5, .bool r6], .int .i64 r7]) ∧ Below w.heap.size w w' := by
 have hu86 := Try.underlying86
 have HB := Aside0.mk (Below.refl w.heap.size w)
 have H := h
 clear h
 unfold vernierref13_Exact.f at H
 replace H := Option.bind_eq_some_iff.mp H
 obtain ⟨t885, A30, H⟩ := H
 try dsimp only at H
 have A3 := Aside0.mk A30
 clear A30
 replace H := Option.bind_eq_some_iff.mp H
 obtain ⟨t886, A40, H⟩ := H
 try dsimp only at H
 have A4 := Aside0.mk A40
 clear A40
 by_cases c5 : t885 = true
 ·subst c5
  rw [if_pos rfl] at H
  by_cases c6 : t886 = true
  ·subst c6
   rw [if_pos rfl] at H
   by_cases c7 : a0_5 = true
   ·subst c7
    rw [if_pos rfl] at H
    simp only [Option.some.injEq, Prod.mk.injEq] at H
    obtain ⟨rfl, rfl, rfl, rfl, rfl, rfl, rfl⟩ := H
    go_enter Try.func56, Try.ntmps56
    go_wp2_with (first | ((with_reducible refine gate_dst (N := 2) rfl ?_); refine boxA 2 (#[.int .i64 a0_0, .bool a0_1, .int .i64 a0_2, .int .u64 a0_3, .int .u64 a0_4, .bool true]) 86 ?_; intro gb882 hg w8 BK882 hb; have GW882 := geT hg; have GE882 := GW882; replace HB := hbS hb; clear hb hg) | ((with_reducible refine gate_dst (N := 3) rfl ?_); refine boxA 3 (#[.int .i64 a1_0, .bool a1_1, .int .i64 a1_2, .int .u64 a1_3, .int .u64 a1_4, .bool a1_5]) 86 ?_; intro gb883 hg w9 BK883 hb; have GW883 := geT hg; have GE883 := GW883; obtain ⟨NB882_883, NB883_882⟩ := neT BK882 hg; replace BK882 := bkB BK882 hb; replace HB := hbS hb; clear hb hg) | ((with_reducible refine gate_dst (N := 4) rfl ?_); refine boxA 4 (#[.int .i64 0, .bool false, .int .i64 0, .int .u64 0, .int .u64 0, .bool false]) 86 ?_; intro gb884 hg w10 BK884 hb; have GW884 := geT hg; have GE884 := GW884; obtain ⟨NB882_884, NB884_882⟩ := neT BK882 hg; obtain ⟨NB883_884, NB884_883⟩ := neT BK883 hg; replace BK882 := bkB BK882 hb; replace BK883 := bkB BK883 hb; replace HB := hbS hb; clear hb hg; have hnb11 := NB882_883.out; have hnc11 := NB883_882.out; have hnb12 := NB882_884.out; have hnc12 := NB884_882.out; obtain ⟨z13_0, z13_1, z13_2, z13_3, z13_4, z13_5, y13_0, y13_1, y13_2, y13_3, y13_4, y13_5⟩ := cz6 BK882) | ((with_reducible refine gate_callee (f := 92) rfl ?_); refine goA (some 9) Try.func92 (vernierref07_Sound.calls a0_0 a0_1 a0_2 a0_3 a0_4 true true _ A3.out) ?_; intro w14 hb; replace BK882 := bkB BK882 hb; replace BK883 := bkB BK883 hb; replace BK884 := bkB BK884 hb; replace HB := hbS hb; clear hb; have hnb15 := NB883_884.out; have hnc15 := NB884_883.out; obtain ⟨z16_0, z16_1, z16_2, z16_3, z16_4, z16_5, y16_0, y16_1, y16_2, y16_3, y16_4, y16_5⟩ := cz6 BK883) | ((with_reducible refine gate_callee (f := 92) rfl ?_); refine goA (some 11) Try.func92 (vernierref07_Sound.calls a1_0 a1_1 a1_2 a1_3 a1_4 a1_5 true _ A4.out) ?_; intro w17 hb; replace BK882 := bkB BK882 hb; replace BK883 := bkB BK883 hb; replace BK884 := bkB BK884 hb; replace HB := hbS hb; clear hb; obtain ⟨z18_0, z18_1, z18_2, z18_3, z18_4, z18_5, y18_0, y18_1, y18_2, y18_3, y18_4, y18_5⟩ := cz6 BK882; obtain ⟨z19_0, z19_1, z19_2, z19_3, z19_4, z19_5, y19_0, y19_1, y19_2, y19_3, y19_4, y19_5⟩ := cz6 BK884))
    refine bodyPost_ret (results_ct rfl _ _ gb884 86 #[.int .i64 0, .bool false, .int .i64 0, .int .u64 0, .int .u64 0, .bool false] (0, 0) _ rfl (bkT BK884) Try.underlying86 rfl (by kernel_rfl)) rfl ?_
    exact ⟨reT, hbT⟩
   ·replace c7 := Bool.eq_false_iff.mpr c7
    subst c7
    rw [if_neg (show ¬ (false = true) by decide)] at H
    by_cases c20 : a1_5 = true
    ·subst c20
     rw [if_pos rfl] at H
     simp only [Option.some.injEq, Prod.mk.injEq] at H
     obtain ⟨rfl, rfl, rfl, rfl, rfl, rfl, rfl⟩ := H
     go_enter Try.func56, Try.ntmps56
     go_wp2_with (first | ((with_reducible refine gate_dst (N := 2) rfl ?_); refine boxA 2 (#[.int .i64 a0_0, .bool a0_1, .int .i64 a0_2, .int .u64 a0_3, .int .u64 a0_4, .bool false]) 86 ?_; intro gb882 hg w21 BK882 hb; have GW882 := geT hg; have GE882 := GW882; replace HB := hbS hb; clear hb hg) | ((with_reducible refine gate_dst (N := 3) rfl ?_); refine boxA 3 (#[.int .i64 a1_0, .bool a1_1, .int .i64 a1_2, .int .u64 a1_3, .int .u64 a1_4, .bool true]) 86 ?_; intro gb883 hg w22 BK883 hb; have GW883 := geT hg; have GE883 := GW883; obtain ⟨NB882_883, NB883_882⟩ := neT BK882 hg; replace BK882 := bkB BK882 hb; replace HB := hbS hb; clear hb hg) | ((with_reducible refine gate_dst (N := 4) rfl ?_); refine boxA 4 (#[.int .i64 0, .bool false, .int .i64 0, .int .u64 0, .int .u64 0, .bool false]) 86 ?_; intro gb884 hg w23 BK884 hb; have GW884 := geT hg; have GE884 := GW884; obtain ⟨NB882_884, NB884_882⟩ := neT BK882 hg; obtain ⟨NB883_884, NB884_883⟩ := neT BK883 hg; replace BK882 := bkB BK882 hb; replace BK883 := bkB BK883 hb; replace HB := hbS hb; clear hb hg; have hnb24 := NB882_883.out; have hnc24 := NB883_882.out; have hnb25 := NB882_884.out; have hnc25 := NB884_882.out; obtain ⟨z26_0, z26_1, z26_2, z26_3, z26_4, z26_5, y26_0, y26_1, y26_2, y26_3, y26_4, y26_5⟩ := cz6 BK882) | ((with_reducible refine gate_callee (f := 92) rfl ?_); refine goA (some 9) Try.func92 (vernierref07_Sound.calls a0_0 a0_1 a0_2 a0_3 a0_4 false true _ A3.out) ?_; intro w27 hb; replace BK882 := bkB BK882 hb; replace BK883 := bkB BK883 hb; replace BK884 := bkB BK884 hb; replace HB := hbS hb; clear hb; have hnb28 := NB883_884.out; have hnc28 := NB884_883.out; obtain ⟨z29_0, z29_1, z29_2, z29_3, z29_4, z29_5, y29_0, y29_1, y29_2, y29_3, y29_4, y29_5⟩ := cz6 BK883) | ((with_reducible refine gate_callee (f := 92) rfl ?_); refine goA (some 11) Try.func92 (vernierref07_Sound.calls a1_0 a1_1 a1_2 a1_3 a1_4 true true _ A4.out) ?_; intro w30 hb; replace BK882 := bkB BK882 hb; replace BK883 := bkB BK883 hb; replace BK884 := bkB BK884 hb; replace HB := hbS hb; clear hb; obtain ⟨z31_0, z31_1, z31_2, z31_3, z31_4, z31_5, y31_0, y31_1, y31_2, y31_3, y31_4, y31_5⟩ := cz6 BK882; obtain ⟨z32_0, z32_1, z32_2, z32_3, z32_4, z32_5, y32_0, y32_1, y32_2, y32_3, y32_4, y32_5⟩ := cz6 BK883; obtain ⟨z33_0, z33_1, z33_2, z33_3, z33_4, z33_5, y33_0, y33_1, y33_2, y33_3, y33_4, y33_5⟩ := cz6 BK884))
     refine bodyPost_ret (results_ct rfl _ _ gb884 86 #[.int .i64 0, .bool false, .int .i64 0, .int .u64 0, .int .u64 0, .bool false] (0, 0) _ rfl (bkT BK884) Try.underlying86 rfl (by kernel_rfl)) rfl ?_
     exact ⟨reT, hbT⟩
    ·replace c20 := Bool.eq_false_iff.mpr c20
     subst c20
     rw [if_neg (show ¬ (false = true) by decide)] at H
     replace H := Option.bind_eq_some_iff.mp H
     obtain ⟨⟨t887, t888, t889, t890, t891, t892⟩, A340, H⟩ := H
     try dsimp only at H
     have A34 := Aside0.mk A340
     clear A340
     simp only [Option.some.injEq, Prod.mk.injEq] at H
     obtain ⟨rfl, rfl, rfl, rfl, rfl, rfl, rfl⟩ := H
     go_enter Try.func56, Try.ntmps56
     go_wp2_with (first | ((with_reducible refine gate_dst (N := 2) rfl ?_); refine boxA 2 (#[.int .i64 a0_0, .bool a0_1, .int .i64 a0_2, .int .u64 a0_3, .int .u64 a0_4, .bool false]) 86 ?_; intro gb882 hg w35 BK882 hb; have GW882 := geT hg; have GE882 := GW882; replace HB := hbS hb; clear hb hg) | ((with_reducible refine gate_dst (N := 3) rfl ?_); refine boxA 3 (#[.int .i64 a1_0, .bool a1_1, .int .i64 a1_2, .int .u64 a1_3, .int .u64 a1_4, .bool false]) 86 ?_; intro gb883 hg w36 BK883 hb; have GW883 := geT hg; have GE883 := GW883; obtain ⟨NB882_883, NB883_882⟩ := neT BK882 hg; replace BK882 := bkB BK882 hb; replace HB := hbS hb; clear hb hg) | ((with_reducible refine gate_dst (N := 4) rfl ?_); refine boxA 4 (#[.int .i64 0, .bool false, .int .i64 0, .int .u64 0, .int .u64 0, .bool false]) 86 ?_; intro gb884 hg w37 BK884 hb; have GW884 := geT hg; have GE884 := GW884; obtain ⟨NB882_884, NB884_882⟩ := neT BK882 hg; obtain ⟨NB883_884, NB884_883⟩ := neT BK883 hg; replace BK882 := bkB BK882 hb; replace BK883 := bkB BK883 hb; replace HB := hbS hb; clear hb hg; have hnb38 := NB882_883.out; have hnc38 := NB883_882.out; have hnb39 := NB882_884.out; have hnc39 := NB884_882.out; obtain ⟨z40_0, z40_1, z40_2, z40_3, z40_4, z40_5, y40_0, y40_1, y40_2, y40_3, y40_4, y40_5⟩ := cz6 BK882) | ((with_reducible refine gate_callee (f := 92) rfl ?_); refine goA (some 9) Try.func92 (vernierref07_Sound.calls a0_0 a0_1 a0_2 a0_3 a0_4 false true _ A3.out) ?_; intro w41 hb; replace BK882 := bkB BK882 hb; replace BK883 := bkB BK883 hb; replace BK884 := bkB BK884 hb; replace HB := hbS hb; clear hb; have hnb42 := NB883_884.out; have hnc42 := NB884_883.out; obtain ⟨z43_0, z43_1, z43_2, z43_3, z43_4, z43_5, y43_0, y43_1, y43_2, y43_3, y43_4, y43_5⟩ := cz6 BK883) | ((with_reducible refine gate_callee (f := 92) rfl ?_); refine goA (some 11) Try.func92 (vernierref07_Sound.calls a1_0 a1_1 a1_2 a1_3 a1_4 false true _ A4.out) ?_; intro w44 hb; replace BK882 := bkB BK882 hb; replace BK883 := bkB BK883 hb; replace BK884 := bkB BK884 hb; replace HB := hbS hb; clear hb; obtain ⟨z45_0, z45_1, z45_2, z45_3, z45_4, z45_5, y45_0, y45_1, y45_2, y45_3, y45_4, y45_5⟩ := cz6 BK882; obtain ⟨z46_0, z46_1, z46_2, z46_3, z46_4, z46_5, y46_0, y46_1, y46_2, y46_3, y46_4, y46_5⟩ := cz6 BK883) | ((with_reducible refine gate_callee (f := 93) rfl ?_); refine goA (some 29) Try.func93 (vernierref09_Sum.calls k a0_0 a0_1 a0_2 a0_3 a0_4 false a1_0 a1_1 a1_2 a1_3 a1_4 false t887 t888 t889 t890 t891 t892 _ A34.out) ?_; intro w47 hb; replace BK882 := bkB BK882 hb; replace BK883 := bkB BK883 hb; replace BK884 := bkB BK884 hb; replace HB := hbS hb; clear hb; obtain ⟨z48_0, z48_1, z48_2, z48_3, z48_4, z48_5, y48_0, y48_1, y48_2, y48_3, y48_4, y48_5⟩ := cz6 BK884))
     refine bodyPost_ret (results_ct rfl _ _ gb884 86 #[.int .i64 t887, .bool t888, .int .i64 t889, .int .u64 t890, .int .u64 t891, .bool t892] (0, 0) _ rfl (bkT BK884) Try.underlying86 rfl (by kernel_rfl)) rfl ?_
     exact ⟨reT, hbT⟩
  ·replace c6 := Bool.eq_false_iff.mpr c6
   subst c6
   rw [if_neg (show ¬ (false = true) by decide)] at H
   simp only [Option.some.injEq, Prod.mk.injEq] at H
   obtain ⟨rfl, rfl, rfl, rfl, rfl, rfl, rfl⟩ := H
   go_enter Try.func56, Try.ntmps56
   go_wp2_with (first | ((with_reducible refine gate_dst (N := 2) rfl ?_); refine boxA 2 (#[.int .i64 a0_0, .bool a0_1, .int .i64 a0_2, .int .u64 a0_3, .int .u64 a0_4, .bool a0_5]) 86 ?_; intro gb882 hg w49 BK882 hb; have GW882 := geT hg; have GE882 := GW882; replace HB := hbS hb; clear hb hg) | ((with_reducible refine gate_dst (N := 3) rfl ?_); refine boxA 3 (#[.int .i64 a1_0, .bool a1_1, .int .i64 a1_2, .int .u64 a1_3, .int .u64 a1_4, .bool a1_5]) 86 ?_; intro gb883 hg w50 BK883 hb; have GW883 := geT hg; have GE883 := GW883; obtain ⟨NB882_883, NB883_882⟩ := neT BK882 hg; replace BK882 := bkB BK882 hb; replace HB := hbS hb; clear hb hg) | ((with_reducible refine gate_dst (N := 4) rfl ?_); refine boxA 4 (#[.int .i64 0, .bool false, .int .i64 0, .int .u64 0, .int .u64 0, .bool false]) 86 ?_; intro gb884 hg w51 BK884 hb; have GW884 := geT hg; have GE884 := GW884; obtain ⟨NB882_884, NB884_882⟩ := neT BK882 hg; obtain ⟨NB883_884, NB884_883⟩ := neT BK883 hg; replace BK882 := bkB BK882 hb; replace BK883 := bkB BK883 hb; replace HB := hbS hb; clear hb hg; have hnb52 := NB882_883.out; have hnc52 := NB883_882.out; have hnb53 := NB882_884.out; have hnc53 := NB884_882.out; obtain ⟨z54_0, z54_1, z54_2, z54_3, z54_4, z54_5, y54_0, y54_1, y54_2, y54_3, y54_4, y54_5⟩ := cz6 BK882) | ((with_reducible refine gate_callee (f := 92) rfl ?_); refine goA (some 9) Try.func92 (vernierref07_Sound.calls a0_0 a0_1 a0_2 a0_3 a0_4 a0_5 true _ A3.out) ?_; intro w55 hb; replace BK882 := bkB BK882 hb; replace BK883 := bkB BK883 hb; replace BK884 := bkB BK884 hb; replace HB := hbS hb; clear hb; have hnb56 := NB883_884.out; have hnc56 := NB884_883.out; obtain ⟨z57_0, z57_1, z57_2, z57_3, z57_4, z57_5, y57_0, y57_1, y57_2, y57_3, y57_4, y57_5⟩ := cz6 BK883) | ((with_reducible refine gate_callee (f := 92) rfl ?_); refine goA (some 11) Try.func92 (vernierref07_Sound.calls a1_0 a1_1 a1_2 a1_3 a1_4 a1_5 false _ A4.out) ?_; intro w58 hb; replace BK882 := bkB BK882 hb; replace BK883 := bkB BK883 hb; replace BK884 := bkB BK884 hb; replace HB := hbS hb; clear hb; obtain ⟨z59_0, z59_1, z59_2, z59_3, z59_4, z59_5, y59_0, y59_1, y59_2, y59_3, y59_4, y59_5⟩ := cz6 BK884))
   refine bodyPost_ret (results_ct rfl _ _ gb884 86 #[.int .i64 0, .bool false, .int .i64 0, .int .u64 0, .int .u64 0, .bool false] (0, 0) _ rfl (bkT BK884) Try.underlying86 rfl (by kernel_rfl)) rfl ?_
   exact ⟨reT, hbT⟩
 ·replace c5 := Bool.eq_false_iff.mpr c5
  subst c5
  rw [if_neg (show ¬ (false = true) by decide)] at H
  simp only [Option.some.injEq, Prod.mk.injEq] at H
  obtain ⟨rfl, rfl, rfl, rfl, rfl, rfl, rfl⟩ := H
  go_enter Try.func56, Try.ntmps56
  go_wp2_with (first | ((with_reducible refine gate_dst (N := 2) rfl ?_); refine boxA 2 (#[.int .i64 a0_0, .bool a0_1, .int .i64 a0_2, .int .u64 a0_3, .int .u64 a0_4, .bool a0_5]) 86 ?_; intro gb882 hg w60 BK882 hb; have GW882 := geT hg; have GE882 := GW882; replace HB := hbS hb; clear hb hg) | ((with_reducible refine gate_dst (N := 3) rfl ?_); refine boxA 3 (#[.int .i64 a1_0, .bool a1_1, .int .i64 a1_2, .int .u64 a1_3, .int .u64 a1_4, .bool a1_5]) 86 ?_; intro gb883 hg w61 BK883 hb; have GW883 := geT hg; have GE883 := GW883; obtain ⟨NB882_883, NB883_882⟩ := neT BK882 hg; replace BK882 := bkB BK882 hb; replace HB := hbS hb; clear hb hg) | ((with_reducible refine gate_dst (N := 4) rfl ?_); refine boxA 4 (#[.int .i64 0, .bool false, .int .i64 0, .int .u64 0, .int .u64 0, .bool false]) 86 ?_; intro gb884 hg w62 BK884 hb; have GW884 := geT hg; have GE884 := GW884; obtain ⟨NB882_884, NB884_882⟩ := neT BK882 hg; obtain ⟨NB883_884, NB884_883⟩ := neT BK883 hg; replace BK882 := bkB BK882 hb; replace BK883 := bkB BK883 hb; replace HB := hbS hb; clear hb hg; have hnb63 := NB882_883.out; have hnc63 := NB883_882.out; have hnb64 := NB882_884.out; have hnc64 := NB884_882.out; obtain ⟨z65_0, z65_1, z65_2, z65_3, z65_4, z65_5, y65_0, y65_1, y65_2, y65_3, y65_4, y65_5⟩ := cz6 BK882) | ((with_reducible refine gate_callee (f := 92) rfl ?_); refine goA (some 9) Try.func92 (vernierref07_Sound.calls a0_0 a0_1 a0_2 a0_3 a0_4 a0_5 false _ A3.out) ?_; intro w66 hb; replace BK882 := bkB BK882 hb; replace BK883 := bkB BK883 hb; replace BK884 := bkB BK884 hb; replace HB := hbS hb; clear hb; have hnb67 := NB883_884.out; have hnc67 := NB884_883.out; obtain ⟨z68_0, z68_1, z68_2, z68_3, z68_4, z68_5, y68_0, y68_1, y68_2, y68_3, y68_4, y68_5⟩ := cz6 BK883) | ((with_reducible refine gate_callee (f := 92) rfl ?_); refine goA (some 11) Try.func92 (vernierref07_Sound.calls a1_0 a1_1 a1_2 a1_3 a1_4 a1_5 t886 _ A4.out) ?_; intro w69 hb; replace BK882 := bkB BK882 hb; replace BK883 := bkB BK883 hb; replace BK884 := bkB BK884 hb; replace HB := hbS hb; clear hb; obtain ⟨z70_0, z70_1, z70_2, z70_3, z70_4, z70_5, y70_0, y70_1, y70_2, y70_3, y70_4, y70_5⟩ := cz6 BK884))
  refine bodyPost_ret (results_ct rfl _ _ gb884 86 #[.int .i64 0, .bool false, .int .i64 0, .int .u64 0, .int .u64 0, .bool false] (0, 0) _ rfl (bkT BK884) Try.underlying86 rfl (by kernel_rfl)) rfl ?_
  exact ⟨reT, hbT⟩
end Go.Proofs.Ytnlbfomlfhigcaa.Q
namespace Go.Proofs.Ytnlbfomlfhigcaa.Q
open Go.RowKit Go.Proofs.YtnlbfomlfhigcaaW.PrintWords Go.Proofs.YtnlbfomlfhigcaaW.PrintLast Go.Proofs.YtnlbfomlfhigcaaW.PrintMore
attribute [local go_sem] max2_int min2_int max_two min_two max_three min_three max_four min_four
set_option linter.unusedVariables false
set_option linter.unusedSimpArgs false
attribute [local go_sem high] eqA86
def vernierlaw13_FuseExacts.f (k : Nat) (a0_0 : Int) (a0_1 : Bool) (a0_2 : Int) (a0_3 : Int) (a0_4 : Int) (a0_5 : Bool) (a1_0 : Int) (a1_1 : Bool) (a1_2 : Int) (a1_3 : Int) (a1_4 : Int) (a1_5 : Bool) : Option (Bool) := (vernierlaw13_up.f k).bind fun t895 => ((fuse_Exact.f k a0_0 a0_1 a0_2 a0_3 a0_4 a0_5 a1_0 a1_1 a1_2 a1_3 a1_4 a1_5).bind fun bt896 => ((vernierref13_Exact.f k a0_0 a0_1 a0_2 a0_3 a0_4 a0_5 a1_0 a1_1 a1_2 a1_3 a1_4 a1_5).bind fun bt904 => (if t895 = true then (if (bt896.1 == bt904.1 && (bt896.2.1 == bt904.2.1 && (bt896.2.2.1 == bt904.2.2.1 && (bt896.2.2.2.1 == bt904.2.2.2.1 && (bt896.2.2.2.2.1 == bt904.2.2.2.2.1 && (bt896.2.2.2.2.2.1 == bt904.2.2.2.2.2.1)))))) = true then ((vernierlaw00_Code.f bt896.2.2.2.2.2.2).bind fun t912 => (some (t912 == bt904.2.2.2.2.2.2))) else (some false)) else (some false))))
set_option maxHeartbeats 8000000 in
set_option maxRecDepth 100000 in
theorem vernierlaw13_FuseExacts.calls (k : Nat) (a0_0 : Int) (a0_1 : Bool) (a0_2 : Int) (a0_3 : Int) (a0_4 : Int) (a0_5 : Bool) (a1_0 : Int) (a1_1 : Bool) (a1_2 : Int) (a1_3 : Int) (a1_4 : Int) (a1_5 : Bool) (r : Bool) (w : World) (h : vernierlaw13_FuseExacts.f k a0_0 a0_1 a0_2 a0_3 a0_4 a0_5 a1_0 a1_1 a1_2 a1_3 a1_4 a1_5 = some r) :
  Calls Try.prog 10 #[.agg #[.int .i64 a0_0, .bool a0_1, .int .i64 a0_2, .int .u64 a0_3, .int .u64 a0_4, .bool a0_5], .agg #[.int .i64 a1_0, .bool a1_1, .int .i64 a1_2, .int .u64 a1_3, .int .u64 a1_4, .bool a1_5]] w fun e w' => e = .returned (.bool r) ∧ Below w.heap.size w w' := by
 have hu86 := Try.underlying86
 have HB := Aside0.mk (Below.refl w.heap.size w)
 have H := h
 clear h
 unfold vernierlaw13_FuseExacts.f at H
 replace H := Option.bind_eq_some_iff.mp H
 obtain ⟨t895, A30, H⟩ := H
 try dsimp only at H
 have A3 := Aside0.mk A30
 clear A30
 replace H := Option.bind_eq_some_iff.mp H
 obtain ⟨⟨t896, t897, t898, t899, t900, t901, t902⟩, A40, H⟩ := H
 try dsimp only at H
 have A4 := Aside0.mk A40
 clear A40
 replace H := Option.bind_eq_some_iff.mp H
 obtain ⟨⟨t904, t905, t906, t907, t908, t909, t910⟩, A50, H⟩ := H
 try dsimp only at H
 have A5 := Aside0.mk A50
 clear A50
 by_cases c6 : t895 = true
 ·subst c6
  rw [if_pos rfl] at H
  by_cases c7 : (t896 == t904 && (t897 == t905 && (t898 == t906 && (t899 == t907 && (t900 == t908 && (t901 == t909)))))) = true
  ·rw [if_pos c7] at H
   have c7b0 : (t896 == t904 && (t897 == t905 && (t898 == t906 && (t899 == t907 && (t900 == t908 && (t901 == t909)))))) = true := c7
   (try (have c7b1 : decide (t896 = t904 && (t897 == t905 && (t898 == t906 && (t899 == t907 && (t900 == t908 && (t901 == t909)))))) = true := by simpa using c7))
   (try (have c7b2 : (t896 == t904 && (t897 == t905 && (t898 == t906 && (t899 == t907 && (t900 == t908 && (t901 == t909)))))) = true := by simpa using c7))
   clear c7
   replace H := Option.bind_eq_some_iff.mp H
   obtain ⟨t912, A80, H⟩ := H
   try dsimp only at H
   have A8 := Aside0.mk A80
   clear A80
   obtain rfl := Option.some.inj H
   go_enter Try.func10, Try.ntmps10
   go_wp2_with (first | ((with_reducible refine gate_dst (N := 2) rfl ?_); refine boxA 2 (#[.int .i64 a0_0, .bool a0_1, .int .i64 a0_2, .int .u64 a0_3, .int .u64 a0_4, .bool a0_5]) 86 ?_; intro gb893 hg w9 BK893 hb; have GW893 := geT hg; have GE893 := GW893; replace HB := hbS hb; clear hb hg) | ((with_reducible refine gate_dst (N := 3) rfl ?_); refine boxA 3 (#[.int .i64 a1_0, .bool a1_1, .int .i64 a1_2, .int .u64 a1_3, .int .u64 a1_4, .bool a1_5]) 86 ?_; intro gb894 hg w10 BK894 hb; have GW894 := geT hg; have GE894 := GW894; obtain ⟨NB893_894, NB894_893⟩ := neT BK893 hg; replace BK893 := bkB BK893 hb; replace HB := hbS hb; clear hb hg) | ((with_reducible refine gate_callee (f := 54) rfl ?_); refine goA (some 10) Try.func54 (vernierlaw13_up.calls k  true _ A3.out) ?_; intro w11 hb; replace BK893 := bkB BK893 hb; replace BK894 := bkB BK894 hb; replace HB := hbS hb; clear hb; have hnb12 := NB893_894.out; have hnc12 := NB894_893.out; obtain ⟨z13_0, z13_1, z13_2, z13_3, z13_4, z13_5, y13_0, y13_1, y13_2, y13_3, y13_4, y13_5⟩ := cz6 BK893; obtain ⟨z14_0, z14_1, z14_2, z14_3, z14_4, z14_5, y14_0, y14_1, y14_2, y14_3, y14_4, y14_5⟩ := cz6 BK894) | ((with_reducible refine gate_callee (f := 55) rfl ?_); refine goA (some 14) Try.func55 (fuse_Exact.calls k a0_0 a0_1 a0_2 a0_3 a0_4 a0_5 a1_0 a1_1 a1_2 a1_3 a1_4 a1_5 t896 t897 t898 t899 t900 t901 t902 _ A4.out) ?_; intro w15 hb; replace BK893 := bkB BK893 hb; replace BK894 := bkB BK894 hb; replace HB := hbS hb; clear hb; (try simp only [errW_none, errW_some])) | ((with_reducible refine gate_dst (N := 6) rfl ?_); refine boxA 6 (#[.int .i64 0, .bool false, .int .i64 0, .int .u64 0, .int .u64 0, .bool false]) 86 ?_; intro gb903 hg w16 BK903 hb; have GW903 := geT hg; have GE903 := GW903; obtain ⟨NB893_903, NB903_893⟩ := neT BK893 hg; obtain ⟨NB894_903, NB903_894⟩ := neT BK894 hg; replace BK893 := bkB BK893 hb; replace BK894 := bkB BK894 hb; replace HB := hbS hb; clear hb hg; have hnb17 := NB903_893.out; have hnc17 := NB893_903.out; have hnb18 := NB903_894.out; have hnc18 := NB894_903.out; obtain ⟨z19_0, z19_1, z19_2, z19_3, z19_4, z19_5, y19_0, y19_1, y19_2, y19_3, y19_4, y19_5⟩ := cz6 BK903; obtain ⟨z20_0, z20_1, z20_2, z20_3, z20_4, z20_5, y20_0, y20_1, y20_2, y20_3, y20_4, y20_5⟩ := cz6 BK893; obtain ⟨z21_0, z21_1, z21_2, z21_3, z21_4, z21_5, y21_0, y21_1, y21_2, y21_3, y21_4, y21_5⟩ := cz6 BK894) | ((with_reducible refine gate_callee (f := 56) rfl ?_); refine goA (some 20) Try.func56 (vernierref13_Exact.calls k a0_0 a0_1 a0_2 a0_3 a0_4 a0_5 a1_0 a1_1 a1_2 a1_3 a1_4 a1_5 t904 t905 t906 t907 t908 t909 t910 _ A5.out) ?_; intro w22 hb; replace BK893 := bkB BK893 hb; replace BK894 := bkB BK894 hb; replace BK903 := bkB (o := .cells #[.int .i64 t896, .bool t897, .int .i64 t898, .int .u64 t899, .int .u64 t900, .bool t901] 86 (0, 0)) BK903 hb; replace HB := hbS hb; clear hb) | ((with_reducible refine gate_dst (N := 8) rfl ?_); refine boxA 8 (#[.int .i64 0, .bool false, .int .i64 0, .int .u64 0, .int .u64 0, .bool false]) 86 ?_; intro gb911 hg w23 BK911 hb; have GW911 := geT hg; have GE911 := GW911; obtain ⟨NB893_911, NB911_893⟩ := neT BK893 hg; obtain ⟨NB894_911, NB911_894⟩ := neT BK894 hg; obtain ⟨NB903_911, NB911_903⟩ := neT BK903 hg; replace BK893 := bkB BK893 hb; replace BK894 := bkB BK894 hb; replace BK903 := bkB BK903 hb; replace HB := hbS hb; clear hb hg; have hnb24 := NB911_893.out; have hnc24 := NB893_911.out; have hnb25 := NB911_894.out; have hnc25 := NB894_911.out; have hnb26 := NB911_903.out; have hnc26 := NB903_911.out; obtain ⟨z27_0, z27_1, z27_2, z27_3, z27_4, z27_5, y27_0, y27_1, y27_2, y27_3, y27_4, y27_5⟩ := cz6 BK911; obtain ⟨z28_0, z28_1, z28_2, z28_3, z28_4, z28_5, y28_0, y28_1, y28_2, y28_3, y28_4, y28_5⟩ := cz6 BK903; have CA8 := fun W => vernierlaw00_Code.calls t902 t912 W A8.out; try simp only [errW_none, errW_some] at CA8) | (go_at_call 47; (with_reducible refine (CA8 _).mono ?_); rintro e w' ⟨rfl, ⟨nd, rfl⟩⟩))
   go_ret
   exact ⟨reT, hbT⟩
  ·rw [if_neg c7] at H
   have c7b0 : (t896 == t904 && (t897 == t905 && (t898 == t906 && (t899 == t907 && (t900 == t908 && (t901 == t909)))))) = false := by simpa using c7
   (try (have c7b1 : decide (t896 = t904 && (t897 == t905 && (t898 == t906 && (t899 == t907 && (t900 == t908 && (t901 == t909)))))) = false := by simpa using c7))
   (try (have c7b2 : (t896 == t904 && (t897 == t905 && (t898 == t906 && (t899 == t907 && (t900 == t908 && (t901 == t909)))))) = false := by simpa using c7))
   (try (have c7b3 : ¬ (t896 = t904 && (t897 == t905 && (t898 == t906 && (t899 == t907 && (t900 == t908 && (t901 == t909)))))) := by simpa using c7))
   clear c7
   obtain rfl := Option.some.inj H
   go_enter Try.func10, Try.ntmps10
   go_wp2_with (first | ((with_reducible refine gate_dst (N := 2) rfl ?_); refine boxA 2 (#[.int .i64 a0_0, .bool a0_1, .int .i64 a0_2, .int .u64 a0_3, .int .u64 a0_4, .bool a0_5]) 86 ?_; intro gb893 hg w29 BK893 hb; have GW893 := geT hg; have GE893 := GW893; replace HB := hbS hb; clear hb hg) | ((with_reducible refine gate_dst (N := 3) rfl ?_); refine boxA 3 (#[.int .i64 a1_0, .bool a1_1, .int .i64 a1_2, .int .u64 a1_3, .int .u64 a1_4, .bool a1_5]) 86 ?_; intro gb894 hg w30 BK894 hb; have GW894 := geT hg; have GE894 := GW894; obtain ⟨NB893_894, NB894_893⟩ := neT BK893 hg; replace BK893 := bkB BK893 hb; replace HB := hbS hb; clear hb hg) | ((with_reducible refine gate_callee (f := 54) rfl ?_); refine goA (some 10) Try.func54 (vernierlaw13_up.calls k  true _ A3.out) ?_; intro w31 hb; replace BK893 := bkB BK893 hb; replace BK894 := bkB BK894 hb; replace HB := hbS hb; clear hb; have hnb32 := NB893_894.out; have hnc32 := NB894_893.out; obtain ⟨z33_0, z33_1, z33_2, z33_3, z33_4, z33_5, y33_0, y33_1, y33_2, y33_3, y33_4, y33_5⟩ := cz6 BK893; obtain ⟨z34_0, z34_1, z34_2, z34_3, z34_4, z34_5, y34_0, y34_1, y34_2, y34_3, y34_4, y34_5⟩ := cz6 BK894) | ((with_reducible refine gate_callee (f := 55) rfl ?_); refine goA (some 14) Try.func55 (fuse_Exact.calls k a0_0 a0_1 a0_2 a0_3 a0_4 a0_5 a1_0 a1_1 a1_2 a1_3 a1_4 a1_5 t896 t897 t898 t899 t900 t901 t902 _ A4.out) ?_; intro w35 hb; replace BK893 := bkB BK893 hb; replace BK894 := bkB BK894 hb; replace HB := hbS hb; clear hb; (try simp only [errW_none, errW_some])) | ((with_reducible refine gate_dst (N := 6) rfl ?_); refine boxA 6 (#[.int .i64 0, .bool false, .int .i64 0, .int .u64 0, .int .u64 0, .bool false]) 86 ?_; intro gb903 hg w36 BK903 hb; have GW903 := geT hg; have GE903 := GW903; obtain ⟨NB893_903, NB903_893⟩ := neT BK893 hg; obtain ⟨NB894_903, NB903_894⟩ := neT BK894 hg; replace BK893 := bkB BK893 hb; replace BK894 := bkB BK894 hb; replace HB := hbS hb; clear hb hg; have hnb37 := NB903_893.out; have hnc37 := NB893_903.out; have hnb38 := NB903_894.out; have hnc38 := NB894_903.out; obtain ⟨z39_0, z39_1, z39_2, z39_3, z39_4, z39_5, y39_0, y39_1, y39_2, y39_3, y39_4, y39_5⟩ := cz6 BK903; obtain ⟨z40_0, z40_1, z40_2, z40_3, z40_4, z40_5, y40_0, y40_1, y40_2, y40_3, y40_4, y40_5⟩ := cz6 BK893; obtain ⟨z41_0, z41_1, z41_2, z41_3, z41_4, z41_5, y41_0, y41_1, y41_2, y41_3, y41_4, y41_5⟩ := cz6 BK894) | ((with_reducible refine gate_callee (f := 56) rfl ?_); refine goA (some 20) Try.func56 (vernierref13_Exact.calls k a0_0 a0_1 a0_2 a0_3 a0_4 a0_5 a1_0 a1_1 a1_2 a1_3 a1_4 a1_5 t904 t905 t906 t907 t908 t909 t910 _ A5.out) ?_; intro w42 hb; replace BK893 := bkB BK893 hb; replace BK894 := bkB BK894 hb; replace BK903 := bkB (o := .cells #[.int .i64 t896, .bool t897, .int .i64 t898, .int .u64 t899, .int .u64 t900, .bool t901] 86 (0, 0)) BK903 hb; replace HB := hbS hb; clear hb) | ((with_reducible refine gate_dst (N := 8) rfl ?_); refine boxA 8 (#[.int .i64 0, .bool false, .int .i64 0, .int .u64 0, .int .u64 0, .bool false]) 86 ?_; intro gb911 hg w43 BK911 hb; have GW911 := geT hg; have GE911 := GW911; obtain ⟨NB893_911, NB911_893⟩ := neT BK893 hg; obtain ⟨NB894_911, NB911_894⟩ := neT BK894 hg; obtain ⟨NB903_911, NB911_903⟩ := neT BK903 hg; replace BK893 := bkB BK893 hb; replace BK894 := bkB BK894 hb; replace BK903 := bkB BK903 hb; replace HB := hbS hb; clear hb hg; have hnb44 := NB911_893.out; have hnc44 := NB893_911.out; have hnb45 := NB911_894.out; have hnc45 := NB894_911.out; have hnb46 := NB911_903.out; have hnc46 := NB903_911.out; obtain ⟨z47_0, z47_1, z47_2, z47_3, z47_4, z47_5, y47_0, y47_1, y47_2, y47_3, y47_4, y47_5⟩ := cz6 BK911; obtain ⟨z48_0, z48_1, z48_2, z48_3, z48_4, z48_5, y48_0, y48_1, y48_2, y48_3, y48_4, y48_5⟩ := cz6 BK903))
   go_ret
   exact ⟨reT, hbT⟩
 ·replace c6 := Bool.eq_false_iff.mpr c6
  subst c6
  rw [if_neg (show ¬ (false = true) by decide)] at H
  obtain rfl := Option.some.inj H
  go_enter Try.func10, Try.ntmps10
  go_wp2_with (first | ((with_reducible refine gate_dst (N := 2) rfl ?_); refine boxA 2 (#[.int .i64 a0_0, .bool a0_1, .int .i64 a0_2, .int .u64 a0_3, .int .u64 a0_4, .bool a0_5]) 86 ?_; intro gb893 hg w49 BK893 hb; have GW893 := geT hg; have GE893 := GW893; replace HB := hbS hb; clear hb hg) | ((with_reducible refine gate_dst (N := 3) rfl ?_); refine boxA 3 (#[.int .i64 a1_0, .bool a1_1, .int .i64 a1_2, .int .u64 a1_3, .int .u64 a1_4, .bool a1_5]) 86 ?_; intro gb894 hg w50 BK894 hb; have GW894 := geT hg; have GE894 := GW894; obtain ⟨NB893_894, NB894_893⟩ := neT BK893 hg; replace BK893 := bkB BK893 hb; replace HB := hbS hb; clear hb hg) | ((with_reducible refine gate_callee (f := 54) rfl ?_); refine goA (some 10) Try.func54 (vernierlaw13_up.calls k  false _ A3.out) ?_; intro w51 hb; replace BK893 := bkB BK893 hb; replace BK894 := bkB BK894 hb; replace HB := hbS hb; clear hb; have hnb52 := NB893_894.out; have hnc52 := NB894_893.out; obtain ⟨z53_0, z53_1, z53_2, z53_3, z53_4, z53_5, y53_0, y53_1, y53_2, y53_3, y53_4, y53_5⟩ := cz6 BK893; obtain ⟨z54_0, z54_1, z54_2, z54_3, z54_4, z54_5, y54_0, y54_1, y54_2, y54_3, y54_4, y54_5⟩ := cz6 BK894) | ((with_reducible refine gate_callee (f := 55) rfl ?_); refine goA (some 14) Try.func55 (fuse_Exact.calls k a0_0 a0_1 a0_2 a0_3 a0_4 a0_5 a1_0 a1_1 a1_2 a1_3 a1_4 a1_5 t896 t897 t898 t899 t900 t901 t902 _ A4.out) ?_; intro w55 hb; replace BK893 := bkB BK893 hb; replace BK894 := bkB BK894 hb; replace HB := hbS hb; clear hb; (try simp only [errW_none, errW_some])) | ((with_reducible refine gate_dst (N := 6) rfl ?_); refine boxA 6 (#[.int .i64 0, .bool false, .int .i64 0, .int .u64 0, .int .u64 0, .bool false]) 86 ?_; intro gb903 hg w56 BK903 hb; have GW903 := geT hg; have GE903 := GW903; obtain ⟨NB893_903, NB903_893⟩ := neT BK893 hg; obtain ⟨NB894_903, NB903_894⟩ := neT BK894 hg; replace BK893 := bkB BK893 hb; replace BK894 := bkB BK894 hb; replace HB := hbS hb; clear hb hg; have hnb57 := NB903_893.out; have hnc57 := NB893_903.out; have hnb58 := NB903_894.out; have hnc58 := NB894_903.out; obtain ⟨z59_0, z59_1, z59_2, z59_3, z59_4, z59_5, y59_0, y59_1, y59_2, y59_3, y59_4, y59_5⟩ := cz6 BK903; obtain ⟨z60_0, z60_1, z60_2, z60_3, z60_4, z60_5, y60_0, y60_1, y60_2, y60_3, y60_4, y60_5⟩ := cz6 BK893; obtain ⟨z61_0, z61_1, z61_2, z61_3, z61_4, z61_5, y61_0, y61_1, y61_2, y61_3, y61_4, y61_5⟩ := cz6 BK894) | ((with_reducible refine gate_callee (f := 56) rfl ?_); refine goA (some 20) Try.func56 (vernierref13_Exact.calls k a0_0 a0_1 a0_2 a0_3 a0_4 a0_5 a1_0 a1_1 a1_2 a1_3 a1_4 a1_5 t904 t905 t906 t907 t908 t909 t910 _ A5.out) ?_; intro w62 hb; replace BK893 := bkB BK893 hb; replace BK894 := bkB BK894 hb; replace BK903 := bkB (o := .cells #[.int .i64 t896, .bool t897, .int .i64 t898, .int .u64 t899, .int .u64 t900, .bool t901] 86 (0, 0)) BK903 hb; replace HB := hbS hb; clear hb) | ((with_reducible refine gate_dst (N := 8) rfl ?_); refine boxA 8 (#[.int .i64 0, .bool false, .int .i64 0, .int .u64 0, .int .u64 0, .bool false]) 86 ?_; intro gb911 hg w63 BK911 hb; have GW911 := geT hg; have GE911 := GW911; obtain ⟨NB893_911, NB911_893⟩ := neT BK893 hg; obtain ⟨NB894_911, NB911_894⟩ := neT BK894 hg; obtain ⟨NB903_911, NB911_903⟩ := neT BK903 hg; replace BK893 := bkB BK893 hb; replace BK894 := bkB BK894 hb; replace BK903 := bkB BK903 hb; replace HB := hbS hb; clear hb hg; have hnb64 := NB911_893.out; have hnc64 := NB893_911.out; have hnb65 := NB911_894.out; have hnc65 := NB894_911.out; have hnb66 := NB911_903.out; have hnc66 := NB903_911.out; obtain ⟨z67_0, z67_1, z67_2, z67_3, z67_4, z67_5, y67_0, y67_1, y67_2, y67_3, y67_4, y67_5⟩ := cz6 BK911))
  go_ret
  exact ⟨reT, hbT⟩
end Go.Proofs.Ytnlbfomlfhigcaa.Q
namespace Go.Proofs.Ytnlbfomlfhigcaa.M
def tl (s : Int) (F : Nat) : Nat := (s % 4).toNat * 2 ^ 127 + (F - 2 ^ 127)
def str (s : Int) (F : Nat) : Nat :=
  if 0 ≤ s / 4 then 2 ^ 200 - 2 ^ 130 * 2 ^ (69 - (s / 4).toNat) + tl s F * 2 ^ (69 - (s / 4).toNat)
  else 2 ^ 129 * 2 ^ (70 - (-(s / 4)).toNat) + tl s F * 2 ^ (70 - (-(s / 4)).toNat)
theorem tl_lt {s : Int} {F : Nat} (hF : F < 2 ^ 128) : tl s F < 2 ^ 129 := by
  unfold tl
  have h1 : (s % 4).toNat ≤ 3 := by omega
  omega
theorem str_pos {s : Int} {F k : Nat} (h : s / 4 = (k : Int)) : str s F = 2 ^ 200 - 2 ^ 130 * 2 ^ (69 - k) + tl s F * 2 ^ (69 - k) := by
  unfold str
  rw [if_pos (by omega), h]
  rfl
theorem str_neg {s : Int} {F r : Nat} (h : s / 4 = -(r : Int)) (hr : 1 ≤ r) : str s F = 2 ^ 129 * 2 ^ (70 - r) + tl s F * 2 ^ (70 - r) := by
  unfold str
  rw [if_neg (by omega), h, show (-(-(r : Int))).toNat = r by omega]
theorem pow_le {a b : Nat} (h : a ≤ b) : 2 ^ a ≤ 2 ^ b := Nat.pow_le_pow_right (by omega) h
theorem pow_dbl {a b : Nat} (h : a + 1 ≤ b) : 2 * 2 ^ a ≤ 2 ^ b := by
  have := pow_le h
  rw [Nat.pow_succ] at this
  omega
theorem pow_pos (a : Nat) : 1 ≤ 2 ^ a := Nat.one_le_two_pow
theorem pos_room {k : Nat} (h : k ≤ 69) : 2 ^ 130 * 2 ^ (69 - k) ≤ 2 ^ 199 := by
  have := pow_le (show 69 - k ≤ 69 by omega)
  calc 2 ^ 130 * 2 ^ (69 - k) ≤ 2 ^ 130 * 2 ^ 69 := Nat.mul_le_mul_left _ this
    _ = 2 ^ 199 := by rw [← Nat.pow_add]
theorem str_pos_bd {s : Int} {F k : Nat} (h : s / 4 = (k : Int)) (hk : k ≤ 69) (hF : F < 2 ^ 128) :
    2 ^ 200 - 2 ^ 130 * 2 ^ (69 - k) ≤ str s F ∧ str s F < 2 ^ 200 - 2 ^ 129 * 2 ^ (69 - k) ∧ 2 ^ 199 ≤ str s F := by
  rw [str_pos h]
  have h1 := pos_room hk
  have h2 := tl_lt (s := s) hF
  have h3 := pow_pos (69 - k)
  generalize 2 ^ (69 - k) = a at *
  have h4 : tl s F * a + a ≤ 2 ^ 129 * a := by
    have := Nat.mul_le_mul_right a (show tl s F + 1 ≤ 2 ^ 129 by omega)
    rw [Nat.add_mul] at this
    omega
  generalize tl s F * a = b at *
  have h5 : 2 ^ 130 * a = 2 * (2 ^ 129 * a) := by rw [← Nat.mul_assoc, ← Nat.pow_succ']
  omega
theorem str_neg_bd {s : Int} {F r : Nat} (h : s / 4 = -(r : Int)) (hr : 1 ≤ r) (hr2 : r ≤ 70) (hF : F < 2 ^ 128) :
    2 ^ 129 * 2 ^ (70 - r) ≤ str s F ∧ str s F < 2 ^ 130 * 2 ^ (70 - r) ∧ str s F < 2 ^ 199 := by
  rw [str_neg h hr]
  have h2 := tl_lt (s := s) hF
  have h3 := pow_pos (70 - r)
  have h6 : 2 ^ 130 * 2 ^ (70 - r) ≤ 2 ^ 199 := by
    calc 2 ^ 130 * 2 ^ (70 - r) ≤ 2 ^ 130 * 2 ^ 69 := Nat.mul_le_mul_left _ (pow_le (by omega))
      _ = 2 ^ 199 := by rw [← Nat.pow_add]
  generalize 2 ^ (70 - r) = a at *
  have h4 : tl s F * a + a ≤ 2 ^ 129 * a := by
    have := Nat.mul_le_mul_right a (show tl s F + 1 ≤ 2 ^ 129 by omega)
    rw [Nat.add_mul] at this
    omega
  generalize tl s F * a = b at *
  have h5 : 2 ^ 130 * a = 2 * (2 ^ 129 * a) := by rw [← Nat.mul_assoc, ← Nat.pow_succ']
  omega
theorem tl_mono {s s' : Int} {F F' : Nat} (hk : s / 4 = s' / 4) (hF : 2 ^ 127 ≤ F) (hF2 : F < 2 ^ 128) (hG : 2 ^ 127 ≤ F') (h : s < s' ∨ (s = s' ∧ F < F')) : tl s F < tl s' F' := by
  unfold tl
  rcases h with h | ⟨rfl, h⟩
  · have h1 : (s % 4).toNat + 1 ≤ (s' % 4).toNat := by omega
    omega
  · omega
theorem str_lt {s s' : Int} {F F' : Nat} (hs : -270 ≤ s) (hs2 : s ≤ 270) (ht : -270 ≤ s') (ht2 : s' ≤ 270) (hF : 2 ^ 127 ≤ F) (hF2 : F < 2 ^ 128) (hG : 2 ^ 127 ≤ F') (hG2 : F' < 2 ^ 128)
    (h : s < s' ∨ (s = s' ∧ F < F')) : str s F < str s' F' := by
  have hk : s / 4 ≤ s' / 4 := by omega
  by_cases h0 : 0 ≤ s / 4
  · obtain ⟨k, hk0⟩ := Int.eq_ofNat_of_zero_le h0
    obtain ⟨k', hk1⟩ := Int.eq_ofNat_of_zero_le (show 0 ≤ s' / 4 by omega)
    by_cases e : k = k'
    · subst e
      have := tl_mono (by omega) hF hF2 hG h
      rw [str_pos hk0, str_pos hk1]
      have h1 := pos_room (show k ≤ 69 by omega)
      have h2 : tl s F * 2 ^ (69 - k) < tl s' F' * 2 ^ (69 - k) := Nat.mul_lt_mul_of_pos_right this (pow_pos _)
      omega
    · have h1 := str_pos_bd hk0 (by omega) hF2
      have h2 := str_pos_bd hk1 (by omega) hG2
      have h3 := pow_dbl (show (69 - k') + 1 ≤ 69 - k by omega)
      have h4 := pos_room (show k ≤ 69 by omega)
      have h5 := pos_room (show k' ≤ 69 by omega)
      generalize 2 ^ (69 - k) = a at *
      generalize 2 ^ (69 - k') = b at *
      have h6 : 2 ^ 130 * b = 2 ^ 129 * (2 * b) := by rw [← Nat.mul_assoc, ← Nat.pow_succ]
      have h7 : 2 ^ 129 * (2 * b) ≤ 2 ^ 129 * a := Nat.mul_le_mul_left _ h3
      omega
  · obtain ⟨r, hr0⟩ : ∃ r : Nat, s / 4 = -(r : Int) := ⟨(-(s / 4)).toNat, by omega⟩
    have g1 := str_neg_bd hr0 (by omega) (by omega) hF2
    by_cases h1 : 0 ≤ s' / 4
    · obtain ⟨k', hk1⟩ := Int.eq_ofNat_of_zero_le h1
      have h2 := str_pos_bd hk1 (by omega) hG2
      omega
    · obtain ⟨r', hr1⟩ : ∃ r : Nat, s' / 4 = -(r : Int) := ⟨(-(s' / 4)).toNat, by omega⟩
      by_cases e : r = r'
      · subst e
        have := tl_mono (by omega) hF hF2 hG h
        rw [str_neg hr0 (by omega), str_neg hr1 (by omega)]
        have h2 : tl s F * 2 ^ (70 - r) < tl s' F' * 2 ^ (70 - r) := Nat.mul_lt_mul_of_pos_right this (pow_pos _)
        omega
      · have g2 := str_neg_bd hr1 (by omega) (by omega) hG2
        have h3 := pow_dbl (show (70 - r) + 1 ≤ 70 - r' by omega)
        generalize 2 ^ (70 - r) = a at *
        generalize 2 ^ (70 - r') = b at *
        have h6 : 2 ^ 130 * a = 2 ^ 129 * (2 * a) := by rw [← Nat.mul_assoc, ← Nat.pow_succ]
        have h7 : 2 ^ 129 * (2 * a) ≤ 2 ^ 129 * b := Nat.mul_le_mul_left _ h3
        omega
theorem str_inj {s s' : Int} {F F' : Nat} (hs : -270 ≤ s) (hs2 : s ≤ 270) (ht : -270 ≤ s') (ht2 : s' ≤ 270) (hF : 2 ^ 127 ≤ F) (hF2 : F < 2 ^ 128) (hG : 2 ^ 127 ≤ F') (hG2 : F' < 2 ^ 128)
    (h : str s F = str s' F') : s = s' ∧ F = F' := by
  rcases Int.lt_trichotomy s s' with a | a | a
  · have := str_lt hs hs2 ht ht2 hF hF2 hG hG2 (.inl a); omega
  · rcases Nat.lt_trichotomy F F' with b | b | b
    · have := str_lt hs hs2 ht ht2 hF hF2 hG hG2 (.inr ⟨a, b⟩); omega
    · exact ⟨a, b⟩
    · have := str_lt ht ht2 hs hs2 hG hG2 hF hF2 (.inr ⟨a.symm, b⟩); omega
  · have := str_lt ht ht2 hs hs2 hG hG2 hF hF2 (.inl a); omega
def rnd (D V : Nat) : Nat := if D < 2 * (V % D) ∨ (D = 2 * (V % D) ∧ V / D % 2 = 1) then V / D + 1 else V / D
theorem rnd_bd (D V : Nat) : V / D ≤ rnd D V ∧ rnd D V ≤ V / D + 1 := by
  unfold rnd
  split <;> omega
theorem rnd_mul {D q : Nat} (hD : 0 < D) : rnd D (q * D) = q := by
  unfold rnd
  rw [Nat.mul_mod_left, Nat.mul_div_cancel _ hD, if_neg (by omega)]
def rpos (n : Nat) (s : Int) (F : Nat) (b : Bool) : Nat :=
  if 4 * (n : Int) - 8 ≤ s then 2 ^ (n - 1) - 1 else if s < 8 - 4 * (n : Int) then 1 else rnd (2 ^ (202 - n)) (2 * str s F + b.toNat)
theorem toNat_le (b : Bool) : b.toNat ≤ 1 := by cases b <;> decide
def Wd (n : Nat) : Prop := n = 8 ∨ n = 16 ∨ n = 32 ∨ n = 64
theorem Wd.bd {n : Nat} (h : Wd n) : 8 ≤ n ∧ n ≤ 64 := by unfold Wd at h; omega
theorem unit_eq {n : Nat} (h : Wd n) : 2 ^ (n - 1) * 2 ^ (201 - n) = 2 ^ 200 ∧ 2 ^ (202 - n) = 2 * 2 ^ (201 - n) := by
  have := h.bd
  constructor
  · rw [← Nat.pow_add]; congr 1; omega
  · rw [← Nat.pow_succ']; congr 1; omega
theorem rnd_in {n : Nat} (hn : Wd n) {s : Int} {F : Nat} (b : Bool) (h1 : 8 - 4 * (n : Int) ≤ s) (h2 : s < 4 * (n : Int) - 8) (hF2 : F < 2 ^ 128) :
    1 ≤ rnd (2 ^ (202 - n)) (2 * str s F + b.toNat) ∧ rnd (2 ^ (202 - n)) (2 * str s F + b.toNat) ≤ 2 ^ (n - 1) - 1 := by
  have hb := hn.bd
  have hbb := toNat_le b
  obtain ⟨u1, u2⟩ := unit_eq hn
  have r := rnd_bd (2 ^ (202 - n)) (2 * str s F + b.toNat)
  have up : str s F < 2 ^ 200 - 2 ^ (201 - n) := by
    by_cases h0 : 0 ≤ s / 4
    · obtain ⟨k, hk⟩ := Int.eq_ofNat_of_zero_le h0
      have := (str_pos_bd hk (by omega) hF2).2.1
      have e : 2 ^ (201 - n) ≤ 2 ^ 129 * 2 ^ (69 - k) := by rw [← Nat.pow_add]; exact pow_le (by omega)
      have := pos_room (show k ≤ 69 by omega)
      omega
    · obtain ⟨r, hr⟩ : ∃ r : Nat, s / 4 = -(r : Int) := ⟨(-(s / 4)).toNat, by omega⟩
      have := (str_neg_bd hr (by omega) (by omega) hF2).2.2
      have e : 2 ^ (201 - n) ≤ 2 ^ 193 := pow_le (by omega)
      omega
  have lo : 2 ^ (201 - n) ≤ str s F := by
    by_cases h0 : 0 ≤ s / 4
    · obtain ⟨k, hk⟩ := Int.eq_ofNat_of_zero_le h0
      have := (str_pos_bd hk (by omega) hF2).2.2
      have e : 2 ^ (201 - n) ≤ 2 ^ 193 := pow_le (by omega)
      omega
    · obtain ⟨r, hr⟩ : ∃ r : Nat, s / 4 = -(r : Int) := ⟨(-(s / 4)).toNat, by omega⟩
      have := (str_neg_bd hr (by omega) (by omega) hF2).1
      have e : 2 ^ (201 - n) ≤ 2 ^ 129 * 2 ^ (70 - r) := by rw [← Nat.pow_add]; exact pow_le (by omega)
      omega
  have hp := pow_pos (201 - n)
  have hq := pow_pos (n - 1)
  generalize str s F = S at *
  rw [u2] at r ⊢
  generalize 2 ^ (201 - n) = d at *
  generalize 2 ^ (n - 1) = m at *
  have q1 : 1 ≤ (2 * S + b.toNat) / (2 * d) := (Nat.le_div_iff_mul_le (by omega)).2 (by omega)
  have q2 : (2 * S + b.toNat) / (2 * d) < m - 1 := by
    rw [Nat.div_lt_iff_lt_mul (by omega)]
    have : (m - 1) * (2 * d) = 2 * (m * d) - 2 * d := by rw [Nat.sub_mul, Nat.one_mul, Nat.mul_left_comm]
    rw [this, u1]
    omega
  omega
theorem rpos_bd {n : Nat} (hn : Wd n) (s : Int) {F : Nat} (b : Bool) (hF2 : F < 2 ^ 128) : 1 ≤ rpos n s F b ∧ rpos n s F b ≤ 2 ^ (n - 1) - 1 := by
  have hb := hn.bd
  have : 2 ^ 1 ≤ 2 ^ (n - 1) := pow_le (by omega)
  unfold rpos
  split
  · omega
  · split
    · omega
    · exact rnd_in hn b (by omega) (by omega) hF2
def Dec (n p : Nat) (s : Int) (f : Nat) : Prop :=
  2 ^ 63 ≤ f ∧ f < 2 ^ 64 ∧ 8 - 4 * (n : Int) ≤ s ∧ s ≤ 4 * (n : Int) - 8 ∧ str s (f * 2 ^ 64) = p * 2 ^ (201 - n)
theorem Dec.F {n p : Nat} {s : Int} {f : Nat} (h : Dec n p s f) : 2 ^ 127 ≤ f * 2 ^ 64 ∧ f * 2 ^ 64 < 2 ^ 128 := by
  unfold Dec at h
  omega
theorem Dec.uniq {n p : Nat} (hn : Wd n) {s s' : Int} {f f' : Nat} (h : Dec n p s f) (h' : Dec n p s' f') : s = s' ∧ f = f' := by
  have hb := hn.bd
  have := str_inj (by unfold Dec at h; omega) (by unfold Dec at h; omega) (by unfold Dec at h'; omega) (by unfold Dec at h'; omega) h.F.1 h.F.2 h'.F.1 h'.F.2 (h.2.2.2.2.trans h'.2.2.2.2.symm)
  exact ⟨this.1, by omega⟩
end Go.Proofs.Ytnlbfomlfhigcaa.M
namespace Go.Proofs.Ytnlbfomlfhigcaa.M
def Hi (j N : Nat) : Prop := 2 ^ j ≤ N ∧ N < 2 ^ (j + 1)
def tF (j N : Nat) : Nat := N * 2 ^ 127 / 2 ^ j
def tB (j N : Nat) : Bool := decide (N * 2 ^ 127 % 2 ^ j ≠ 0)
theorem Hi.uniq {j i N : Nat} (h : Hi j N) (h' : Hi i N) : j = i := by
  obtain ⟨a, b⟩ := h
  obtain ⟨c, d⟩ := h'
  have h1 : j < i + 1 := (Nat.pow_lt_pow_iff_right (by omega)).1 (Nat.lt_of_le_of_lt a d)
  have h2 : i < j + 1 := (Nat.pow_lt_pow_iff_right (by omega)).1 (Nat.lt_of_le_of_lt c b)
  omega
theorem Hi.ex {N : Nat} (h : N ≠ 0) : ∃ j, Hi j N := ⟨Nat.log2 N, Nat.log2_self_le h, Nat.lt_log2_self⟩
theorem Hi.mul {j N : Nat} (h : Hi j N) (c : Nat) : Hi (j + c) (N * 2 ^ c) := by
  refine ⟨?_, ?_⟩
  · rw [Nat.pow_add]
    exact Nat.mul_le_mul_right _ h.1
  · rw [show j + c + 1 = (j + 1) + c by omega, Nat.pow_add]
    exact Nat.mul_lt_mul_of_pos_right h.2 (pow_pos c)
theorem tF_mul {j N : Nat} (c : Nat) : tF (j + c) (N * 2 ^ c) = tF j N := by
  unfold tF
  rw [Nat.pow_add, Nat.mul_right_comm]
  exact Nat.mul_div_mul_right _ _ (pow_pos c)
theorem tB_mul {j N : Nat} (c : Nat) : tB (j + c) (N * 2 ^ c) = tB j N := by
  unfold tB
  rw [Nat.pow_add, Nat.mul_right_comm, Nat.mul_mod_mul_right]
  have := pow_pos c
  by_cases h : N * 2 ^ 127 % 2 ^ j = 0
  · rw [h, Nat.zero_mul]
  · have h2 : N * 2 ^ 127 % 2 ^ j * 2 ^ c ≠ 0 := Nat.mul_ne_zero h (by omega)
    rw [decide_eq_true h, decide_eq_true h2]
theorem tF_bd {j N : Nat} (h : Hi j N) : 2 ^ 127 ≤ tF j N ∧ tF j N < 2 ^ 128 := by
  unfold tF
  have hp := pow_pos j
  refine ⟨?_, ?_⟩
  · rw [Nat.le_div_iff_mul_le hp, Nat.mul_comm]
    exact Nat.mul_le_mul_right _ h.1
  · rw [Nat.div_lt_iff_lt_mul hp]
    have h2 := h.2
    rw [Nat.pow_succ] at h2
    generalize 2 ^ j = p at *
    omega
theorem top_of {N W l u v c : Nat} (he : N * 2 ^ u = W * 2 ^ v + l) (hl : l < 2 ^ (v + c)) (hc : W % 2 ^ c = 0) (hc2 : c ≤ 128) (hW : 2 ^ 255 ≤ W) (hW2 : W < 2 ^ 256) :
    u ≤ 255 + v ∧ Hi (255 + v - u) N ∧ tF (255 + v - u) N = W / 2 ^ 128 ∧ tB (255 + v - u) N = (decide (W % 2 ^ 128 ≠ 0) || decide (l ≠ 0)) := by
  have hv := pow_pos v
  have hu := pow_pos u

  have hr : W % 2 ^ 128 + 2 ^ c ≤ 2 ^ 128 := by
    have h1 : W % 2 ^ 128 % 2 ^ c = 0 := by
      rw [Nat.mod_mod_of_dvd _ (Nat.pow_dvd_pow 2 hc2)]
      exact hc
    have h2 := Nat.mod_lt W (pow_pos 128)
    have e : 2 ^ 128 = 2 ^ (128 - c) * 2 ^ c := by rw [← Nat.pow_add]; exact congrArg (2 ^ ·) (by omega)
    obtain ⟨q, hq⟩ := Nat.dvd_of_mod_eq_zero h1
    rw [hq, e] at h2 ⊢
    rw [Nat.mul_comm (2 ^ c) q] at h2 ⊢
    have h3 : q < 2 ^ (128 - c) := Nat.lt_of_mul_lt_mul_right h2
    have h4 := Nat.mul_le_mul_right (2 ^ c) (show q + 1 ≤ 2 ^ (128 - c) by omega)
    rw [Nat.add_mul, Nat.one_mul] at h4
    exact h4
  have hsm : W % 2 ^ 128 * 2 ^ v + l < 2 ^ (128 + v) := by
    have h1 := Nat.mul_le_mul_right (2 ^ v) hr
    rw [Nat.add_mul, ← Nat.pow_add, ← Nat.pow_add, Nat.add_comm c v] at h1
    omega
  have hsum : N * 2 ^ u = W / 2 ^ 128 * 2 ^ (128 + v) + (W % 2 ^ 128 * 2 ^ v + l) := by
    rw [he, Nat.pow_add 2 128 v, ← Nat.mul_assoc]
    have := Nat.div_add_mod W (2 ^ 128)
    have e : W * 2 ^ v = (W / 2 ^ 128 * 2 ^ 128) * 2 ^ v + W % 2 ^ 128 * 2 ^ v := by
      rw [← Nat.add_mul, Nat.mul_comm (W / 2 ^ 128), this]
    omega
  have hlo : 2 ^ (255 + v) ≤ N * 2 ^ u := by
    rw [Nat.pow_add, he]
    have := Nat.mul_le_mul_right (2 ^ v) hW
    omega
  have hhi : N * 2 ^ u < 2 ^ (256 + v) := by
    rw [hsum]
    have h1 : W / 2 ^ 128 + 1 ≤ 2 ^ 128 := by omega
    have h2 := Nat.mul_le_mul_right (2 ^ (128 + v)) h1
    rw [Nat.add_mul, Nat.one_mul, ← Nat.pow_add] at h2
    rw [show 256 + v = 128 + (128 + v) by omega]
    omega
  have hN : N ≠ 0 := by
    intro h0
    rw [h0, Nat.zero_mul] at hlo
    have := pow_pos (255 + v)
    omega
  have hu2 : u ≤ 255 + v := by
    refine Nat.le_of_not_lt fun h => ?_
    have h1 : 2 ^ (256 + v) ≤ 2 ^ u := pow_le (by omega)
    have h2 : 2 ^ u ≤ N * 2 ^ u := Nat.le_mul_of_pos_left _ (by omega)
    omega
  have hj : (255 + v - u) + u = 255 + v := by omega
  have hHi : Hi (255 + v - u) N := by
    refine ⟨?_, ?_⟩
    · refine Nat.le_of_mul_le_mul_right (c := 2 ^ u) ?_ hu
      rw [← Nat.pow_add, hj]
      exact hlo
    · refine Nat.lt_of_mul_lt_mul_right (a := 2 ^ u) ?_
      rw [← Nat.pow_add, show 255 + v - u + 1 + u = 256 + v by omega]
      exact hhi
  have hpw : 2 ^ (255 + v) = 2 ^ 127 * 2 ^ (128 + v) := by rw [← Nat.pow_add]; exact congrArg (2 ^ ·) (by omega)
  refine ⟨hu2, hHi, ?_, ?_⟩
  · rw [← tF_mul u, hj]
    unfold tF
    rw [hpw, Nat.mul_comm _ (2 ^ 127), Nat.mul_div_mul_left _ _ (pow_pos 127), hsum]
    rw [Nat.mul_comm, Nat.mul_add_div (pow_pos _), Nat.div_eq_of_lt hsm, Nat.add_zero]
  · rw [← tB_mul u, hj]
    unfold tB
    rw [hpw, Nat.mul_comm _ (2 ^ 127), Nat.mul_mod_mul_left, hsum]
    rw [Nat.mul_comm (W / 2 ^ 128), Nat.mul_add_mod, Nat.mod_eq_of_lt hsm]
    have p127 := pow_pos 127
    clear hsm hsum hlo hhi hpw hr hHi hc hW hW2 he
    generalize 2 ^ 127 = t at *
    generalize W % 2 ^ 128 = r at *
    by_cases h1 : r = 0
    · rw [h1, Nat.zero_mul, Nat.zero_add]
      by_cases h2 : l = 0
      · rw [h2]
        simp
      · have : t * l ≠ 0 := Nat.mul_ne_zero (by omega) h2
        rw [decide_eq_true this, decide_eq_true h2]
        simp
    · have h3 : r * 2 ^ v ≠ 0 := Nat.mul_ne_zero h1 (by omega)
      have : t * (r * 2 ^ v + l) ≠ 0 := Nat.mul_ne_zero (by omega) (by omega)
      rw [decide_eq_true this, decide_eq_true h1]
      simp
end Go.Proofs.Ytnlbfomlfhigcaa.M
namespace Go.Proofs.Ytnlbfomlfhigcaa.M
open Go.RowKit Go.Proofs.YtnlbfomlfhigcaaW.PrintWords Go.Proofs.YtnlbfomlfhigcaaW.PrintLast Go.Proofs.YtnlbfomlfhigcaaW.PrintMore
theorem u64w (n : Int) : IntKind.u64.wrap n = n % 18446744073709551616 := by simp [IntKind.wrap, IntKind.bits, IntKind.signed]
theorem p64 : (2 : Nat) ^ 64 = 18446744073709551616 := by decide
theorem p63 : (2 : Nat) ^ 63 = 9223372036854775808 := by decide
theorem cast_pow (j : Nat) : ((2 : Int) ^ j) = ((2 ^ j : Nat) : Int) := by simp
theorem shl_nat (x j : Nat) (hj : j ≤ 64) : shl .u64 (x : Int) (j : Int) = ((x * 2 ^ j % 2 ^ 64 : Nat) : Int) := by
  unfold shl
  rw [u64w, Int.toNat_natCast, Nat.min_eq_left (show j ≤ IntKind.u64.bits from hj), cast_pow, p64]
  omega
theorem shr_nat (x j : Nat) (hj : j ≤ 64) : shr .u64 (x : Int) (j : Int) = ((x / 2 ^ j : Nat) : Int) := by
  unfold shr
  rw [Int.toNat_natCast, Nat.min_eq_left (show j ≤ IntKind.u64.bits from hj), cast_pow]
  simp
theorem wraps_u64 (n : Int) (h₀ : 0 ≤ n) (h₁ : n < 2 ^ 64) : IntKind.u64.wrap n = n := by rw [u64w]; omega
theorem and_nat (a b : Nat) (ha : a < 2 ^ 64) (hb : b < 2 ^ 64) : Go.bits .and .u64 (a : Int) (b : Int) = ((a &&& b : Nat) : Int) :=
  (bits_nat .u64 64 (by decide) wraps_u64 a b ha hb).1
theorem or_nat (a b : Nat) (ha : a < 2 ^ 64) (hb : b < 2 ^ 64) : Go.bits .or .u64 (a : Int) (b : Int) = ((a ||| b : Nat) : Int) :=
  (bits_nat .u64 64 (by decide) wraps_u64 a b ha hb).2
theorem and_mask (a j : Nat) (ha : a < 2 ^ 64) (hj : j ≤ 64) : Go.bits .and .u64 (a : Int) ((2 ^ j - 1 : Nat) : Int) = ((a % 2 ^ j : Nat) : Int) := by
  have : 2 ^ j ≤ 2 ^ 64 := Nat.pow_le_pow_right (by decide) hj
  rw [and_nat a _ ha (by omega), Nat.and_two_pow_sub_one_eq_mod]
theorem or_add (a b i : Nat) (ha : a < 2 ^ 64) (hb : b < 2 ^ i) (hi : i ≤ 64) (hd : a % 2 ^ i = 0) : Go.bits .or .u64 (a : Int) (b : Int) = ((a + b : Nat) : Int) := by
  have : 2 ^ i ≤ 2 ^ 64 := Nat.pow_le_pow_right (by decide) hi
  rw [or_nat a b ha (by omega)]
  have hq : a = 2 ^ i * (a / 2 ^ i) := by
    have := Nat.div_add_mod a (2 ^ i)
    omega
  rw [hq, ← Nat.two_pow_add_eq_or_of_lt hb (a / 2 ^ i)]
end Go.Proofs.Ytnlbfomlfhigcaa.M
