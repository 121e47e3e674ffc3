/- Walks and plain laws that the claim stands on: each theorem named calls says that a call of a function returns what its f computes; the others are plain laws of these f, and the words that the walks use. -/
import Derived.Test.YtnlbfomlfhigcaaGenConvertsV2
import Derived.Test.YtnlbfomlfhigcaaGenConvertsV7
import Derived.Test.YtnlbfomlfhigcaaGenConvertsV10
import Derived.Test.YtnlbfomlfhigcaaGenConvertsV3
import Derived.Test.YtnlbfomlfhigcaaGenConvertsV6
import Derived.Test.YtnlbfomlfhigcaaGenConvertsV4
namespace Go.Proofs.Ytnlbfomlfhigcaa.Q
open Go.RowKit Go.Proofs.YtnlbfomlfhigcaaW.PrintWords Go.Proofs.YtnlbfomlfhigcaaW.PrintLast Go.Proofs.YtnlbfomlfhigcaaW.PrintMore
attribute [local go_sem] max2_int min2_int max_two min_two max_three min_three max_four min_four
set_option linter.unusedVariables false
set_option linter.unusedSimpArgs false
def sum_Exact.f (k : Nat) (a0_0 : Int) (a0_1 : Bool) (a0_2 : Int) (a0_3 : Int) (a1_0 : Int) (a1_1 : Bool) (a1_2 : Int) (a1_3 : Int) : Option (Int × Bool × Int × Int × Int × Bool × Option Int) := (round_Of.f k a0_0 a0_1 a0_2 a0_3).bind fun bt324 => (if bt324.2.2.2.2.2.2.isNone = true then ((round_Of.f k a1_0 a1_1 a1_2 a1_3).bind fun bt333 => (if bt333.2.2.2.2.2.2.isNone = true then ((broad_Sum.f k bt324.1 bt324.2.1 bt324.2.2.1 bt324.2.2.2.1 bt324.2.2.2.2.1 bt324.2.2.2.2.2.1 bt333.1 bt333.2.1 bt333.2.2.1 bt333.2.2.2.1 bt333.2.2.2.2.1 bt333.2.2.2.2.2.1).bind fun bt342 => (some (bt342.1, bt342.2.1, bt342.2.2.1, bt342.2.2.2.1, bt342.2.2.2.2.1, bt342.2.2.2.2.2, none))) else (some (0, false, 0, 0, 0, false, some (bt333.2.2.2.2.2.2.getD 0))))) else (some (0, false, 0, 0, 0, false, some (bt324.2.2.2.2.2.2.getD 0))))
set_option maxHeartbeats 8000000 in
set_option maxRecDepth 100000 in
theorem sum_Exact.calls (k : Nat) (a0_0 : Int) (a0_1 : Bool) (a0_2 : Int) (a0_3 : Int) (a1_0 : Int) (a1_1 : Bool) (a1_2 : Int) (a1_3 : Int) (r1 : Int) (r2 : Bool) (r3 : Int) (r4 : Int) (r5 : Int) (r6 : Bool) (r7 : Option Int) (w : World) (h : sum_Exact.f k a0_0 a0_1 a0_2 a0_3 a1_0 a1_1 a1_2 a1_3 = some (r1, r2, r3, r4, r5, r6, r7)) :
  Calls Try.prog 73 #[.agg #[.int .i64 a0_0, .bool a0_1, .int .i64 a0_2, .int .u64 a0_3], .agg #[.int .i64 a1_0, .bool a1_1, .int .i64 a1_2, .int .u64 a1_3]] w fun e w' => e = .returned (.tuple #[.agg #[.int .i64 r1, .bool r2, .int .i64 r3, .int .u64 r4, .int .u64 r5, .bool r6], errW r7]) ∧ Below w.heap.size w w' := by
 have hu103 := Try.underlying103
 have hu86 := Try.underlying86
 have hu43 := Try.underlying43
 have hu82 := Try.underlying82
 have HB := Aside0.mk (Below.refl w.heap.size w)
 have H := h
 clear h
 unfold sum_Exact.f at H
 replace H := Option.bind_eq_some_iff.mp H
 obtain ⟨⟨t324, t325, t326, t327, t328, t329, t330⟩, A30, H⟩ := H
 try dsimp only at H
 have A3 := Aside0.mk A30
 clear A30
 rcases t330 with _ | q332
 ·rw [if_pos (show (none : Option Int).isNone = true by rfl)] at H
  try simp only [errW_none, errW_some]
  replace H := Option.bind_eq_some_iff.mp H
  obtain ⟨⟨t333, t334, t335, t336, t337, t338, t339⟩, A40, H⟩ := H
  try dsimp only at H
  have A4 := Aside0.mk A40
  clear A40
  rcases t339 with _ | q341
  ·rw [if_pos (show (none : Option Int).isNone = true by rfl)] at H
   try simp only [errW_none, errW_some]
   replace H := Option.bind_eq_some_iff.mp H
   obtain ⟨⟨t342, t343, t344, t345, t346, t347⟩, A50, H⟩ := H
   try dsimp only at H
   have A5 := Aside0.mk A50
   clear A50
   simp only [Option.some.injEq, Prod.mk.injEq] at H
   obtain ⟨rfl, rfl, rfl, rfl, rfl, rfl, rfl⟩ := H
   go_enter Try.func73, Try.ntmps73
   go_wp2_with (first | ((with_reducible refine gate_dst (N := 2) rfl ?_); refine boxA 2 (#[.int .i64 a0_0, .bool a0_1, .int .i64 a0_2, .int .u64 a0_3]) 103 ?_; intro gb321 hg w6 BK321 hb; have GW321 := geT hg; have GE321 := GW321; replace HB := hbS hb; clear hb hg) | ((with_reducible refine gate_dst (N := 3) rfl ?_); refine boxA 3 (#[.int .i64 a1_0, .bool a1_1, .int .i64 a1_2, .int .u64 a1_3]) 103 ?_; intro gb322 hg w7 BK322 hb; have GW322 := geT hg; have GE322 := GW322; obtain ⟨NB321_322, NB322_321⟩ := neT BK321 hg; replace BK321 := bkB BK321 hb; replace HB := hbS hb; clear hb hg) | ((with_reducible refine gate_dst (N := 4) rfl ?_); refine boxA 4 (#[.int .i64 0, .bool false, .int .i64 0, .int .u64 0, .int .u64 0, .bool false]) 86 ?_; intro gb323 hg w8 BK323 hb; have GW323 := geT hg; have GE323 := GW323; obtain ⟨NB321_323, NB323_321⟩ := neT BK321 hg; obtain ⟨NB322_323, NB323_322⟩ := neT BK322 hg; replace BK321 := bkB BK321 hb; replace BK322 := bkB BK322 hb; replace HB := hbS hb; clear hb hg; have hnb9 := NB321_322.out; have hnc9 := NB322_321.out; have hnb10 := NB321_323.out; have hnc10 := NB323_321.out; obtain ⟨z11_0, z11_1, z11_2, z11_3, y11_0, y11_1, y11_2, y11_3⟩ := cz4 BK321) | ((with_reducible refine gate_callee (f := 78) rfl ?_); refine goA (some 11) Try.func78 (round_Of.calls k a0_0 a0_1 a0_2 a0_3 t324 t325 t326 t327 t328 t329 none _ A3.out) ?_; intro w12 hb; replace BK321 := bkB BK321 hb; replace BK322 := bkB BK322 hb; replace BK323 := bkB BK323 hb; replace HB := hbS hb; clear hb; (try simp only [errW_none, errW_some])) | ((with_reducible refine gate_dst (N := 6) rfl ?_); refine boxA 6 (#[.int .i64 0, .bool false, .int .i64 0, .int .u64 0, .int .u64 0, .bool false]) 86 ?_; intro gb331 hg w13 BK331 hb; have GW331 := geT hg; have GE331 := GW331; obtain ⟨NB321_331, NB331_321⟩ := neT BK321 hg; obtain ⟨NB322_331, NB331_322⟩ := neT BK322 hg; obtain ⟨NB323_331, NB331_323⟩ := neT BK323 hg; replace BK321 := bkB BK321 hb; replace BK322 := bkB BK322 hb; replace BK323 := bkB BK323 hb; replace HB := hbS hb; clear hb hg; have hnb14 := NB331_321.out; have hnc14 := NB321_331.out; have hnb15 := NB331_322.out; have hnc15 := NB322_331.out; have hnb16 := NB331_323.out; have hnc16 := NB323_331.out; obtain ⟨z17_0, z17_1, z17_2, z17_3, z17_4, z17_5, y17_0, y17_1, y17_2, y17_3, y17_4, y17_5⟩ := cz6 BK331; have hnb18 := NB322_323.out; have hnc18 := NB323_322.out; obtain ⟨z19_0, z19_1, z19_2, z19_3, y19_0, y19_1, y19_2, y19_3⟩ := cz4 BK322) | ((with_reducible refine gate_callee (f := 78) rfl ?_); refine goA (some 20) Try.func78 (round_Of.calls k a1_0 a1_1 a1_2 a1_3 t333 t334 t335 t336 t337 t338 none _ A4.out) ?_; intro w20 hb; replace BK321 := bkB BK321 hb; replace BK322 := bkB BK322 hb; replace BK323 := bkB BK323 hb; replace BK331 := bkB (o := .cells #[.int .i64 t324, .bool t325, .int .i64 t326, .int .u64 t327, .int .u64 t328, .bool t329] 86 (0, 0)) BK331 hb; replace HB := hbS hb; clear hb; (try simp only [errW_none, errW_some])) | ((with_reducible refine gate_dst (N := 8) rfl ?_); refine boxA 8 (#[.int .i64 0, .bool false, .int .i64 0, .int .u64 0, .int .u64 0, .bool false]) 86 ?_; intro gb340 hg w21 BK340 hb; have GW340 := geT hg; have GE340 := GW340; obtain ⟨NB321_340, NB340_321⟩ := neT BK321 hg; obtain ⟨NB322_340, NB340_322⟩ := neT BK322 hg; obtain ⟨NB323_340, NB340_323⟩ := neT BK323 hg; obtain ⟨NB331_340, NB340_331⟩ := neT BK331 hg; replace BK321 := bkB BK321 hb; replace BK322 := bkB BK322 hb; replace BK323 := bkB BK323 hb; replace BK331 := bkB BK331 hb; replace HB := hbS hb; clear hb hg; have hnb22 := NB340_321.out; have hnc22 := NB321_340.out; have hnb23 := NB340_322.out; have hnc23 := NB322_340.out; have hnb24 := NB340_323.out; have hnc24 := NB323_340.out; have hnb25 := NB340_331.out; have hnc25 := NB331_340.out; obtain ⟨z26_0, z26_1, z26_2, z26_3, z26_4, z26_5, y26_0, y26_1, y26_2, y26_3, y26_4, y26_5⟩ := cz6 BK340; obtain ⟨z27_0, z27_1, z27_2, z27_3, z27_4, z27_5, y27_0, y27_1, y27_2, y27_3, y27_4, y27_5⟩ := cz6 BK331) | ((with_reducible refine gate_callee (f := 79) rfl ?_); refine goA (some 29) Try.func79 (broad_Sum.calls k t324 t325 t326 t327 t328 t329 t333 t334 t335 t336 t337 t338 t342 t343 t344 t345 t346 t347 _ A5.out) ?_; intro w28 hb; replace BK321 := bkB BK321 hb; replace BK322 := bkB BK322 hb; replace BK323 := bkB BK323 hb; replace BK331 := bkB BK331 hb; replace BK340 := bkB (o := .cells #[.int .i64 t333, .bool t334, .int .i64 t335, .int .u64 t336, .int .u64 t337, .bool t338] 86 (0, 0)) BK340 hb; replace HB := hbS hb; clear hb; obtain ⟨z29_0, z29_1, z29_2, z29_3, z29_4, z29_5, y29_0, y29_1, y29_2, y29_3, y29_4, y29_5⟩ := cz6 BK323))
   refine bodyPost_ret (results_ct rfl _ _ gb323 86 #[.int .i64 t342, .bool t343, .int .i64 t344, .int .u64 t345, .int .u64 t346, .bool t347] (0, 0) _ rfl (bkT BK323) Try.underlying86 rfl (by kernel_rfl)) rfl ?_
   exact ⟨reT, hbT⟩
  ·rw [if_neg (show ¬ (some q341).isNone = true by simp)] at H
   try simp only [errW_none, errW_some]
   simp only [Option.some.injEq, Prod.mk.injEq] at H
   obtain ⟨rfl, rfl, rfl, rfl, rfl, rfl, rfl⟩ := H
   go_enter Try.func73, Try.ntmps73
   go_wp2_with (first | ((with_reducible refine gate_dst (N := 2) rfl ?_); refine boxA 2 (#[.int .i64 a0_0, .bool a0_1, .int .i64 a0_2, .int .u64 a0_3]) 103 ?_; intro gb321 hg w30 BK321 hb; have GW321 := geT hg; have GE321 := GW321; replace HB := hbS hb; clear hb hg) | ((with_reducible refine gate_dst (N := 3) rfl ?_); refine boxA 3 (#[.int .i64 a1_0, .bool a1_1, .int .i64 a1_2, .int .u64 a1_3]) 103 ?_; intro gb322 hg w31 BK322 hb; have GW322 := geT hg; have GE322 := GW322; obtain ⟨NB321_322, NB322_321⟩ := neT BK321 hg; replace BK321 := bkB BK321 hb; replace HB := hbS hb; clear hb hg) | ((with_reducible refine gate_dst (N := 4) rfl ?_); refine boxA 4 (#[.int .i64 0, .bool false, .int .i64 0, .int .u64 0, .int .u64 0, .bool false]) 86 ?_; intro gb323 hg w32 BK323 hb; have GW323 := geT hg; have GE323 := GW323; obtain ⟨NB321_323, NB323_321⟩ := neT BK321 hg; obtain ⟨NB322_323, NB323_322⟩ := neT BK322 hg; replace BK321 := bkB BK321 hb; replace BK322 := bkB BK322 hb; replace HB := hbS hb; clear hb hg; have hnb33 := NB321_322.out; have hnc33 := NB322_321.out; have hnb34 := NB321_323.out; have hnc34 := NB323_321.out; obtain ⟨z35_0, z35_1, z35_2, z35_3, y35_0, y35_1, y35_2, y35_3⟩ := cz4 BK321) | ((with_reducible refine gate_callee (f := 78) rfl ?_); refine goA (some 11) Try.func78 (round_Of.calls k a0_0 a0_1 a0_2 a0_3 t324 t325 t326 t327 t328 t329 none _ A3.out) ?_; intro w36 hb; replace BK321 := bkB BK321 hb; replace BK322 := bkB BK322 hb; replace BK323 := bkB BK323 hb; replace HB := hbS hb; clear hb; (try simp only [errW_none, errW_some])) | ((with_reducible refine gate_dst (N := 6) rfl ?_); refine boxA 6 (#[.int .i64 0, .bool false, .int .i64 0, .int .u64 0, .int .u64 0, .bool false]) 86 ?_; intro gb331 hg w37 BK331 hb; have GW331 := geT hg; have GE331 := GW331; obtain ⟨NB321_331, NB331_321⟩ := neT BK321 hg; obtain ⟨NB322_331, NB331_322⟩ := neT BK322 hg; obtain ⟨NB323_331, NB331_323⟩ := neT BK323 hg; replace BK321 := bkB BK321 hb; replace BK322 := bkB BK322 hb; replace BK323 := bkB BK323 hb; replace HB := hbS hb; clear hb hg; have hnb38 := NB331_321.out; have hnc38 := NB321_331.out; have hnb39 := NB331_322.out; have hnc39 := NB322_331.out; have hnb40 := NB331_323.out; have hnc40 := NB323_331.out; obtain ⟨z41_0, z41_1, z41_2, z41_3, z41_4, z41_5, y41_0, y41_1, y41_2, y41_3, y41_4, y41_5⟩ := cz6 BK331; have hnb42 := NB322_323.out; have hnc42 := NB323_322.out; obtain ⟨z43_0, z43_1, z43_2, z43_3, y43_0, y43_1, y43_2, y43_3⟩ := cz4 BK322) | ((with_reducible refine gate_callee (f := 78) rfl ?_); refine goA (some 20) Try.func78 (round_Of.calls k a1_0 a1_1 a1_2 a1_3 t333 t334 t335 t336 t337 t338 (some q341) _ A4.out) ?_; intro w44 hb; replace BK321 := bkB BK321 hb; replace BK322 := bkB BK322 hb; replace BK323 := bkB BK323 hb; replace BK331 := bkB (o := .cells #[.int .i64 t324, .bool t325, .int .i64 t326, .int .u64 t327, .int .u64 t328, .bool t329] 86 (0, 0)) BK331 hb; replace HB := hbS hb; clear hb; (try simp only [errW_none, errW_some])) | ((with_reducible refine gate_dst (N := 8) rfl ?_); refine boxA 8 (#[.int .i64 0, .bool false, .int .i64 0, .int .u64 0, .int .u64 0, .bool false]) 86 ?_; intro gb340 hg w45 BK340 hb; have GW340 := geT hg; have GE340 := GW340; obtain ⟨NB321_340, NB340_321⟩ := neT BK321 hg; obtain ⟨NB322_340, NB340_322⟩ := neT BK322 hg; obtain ⟨NB323_340, NB340_323⟩ := neT BK323 hg; obtain ⟨NB331_340, NB340_331⟩ := neT BK331 hg; replace BK321 := bkB BK321 hb; replace BK322 := bkB BK322 hb; replace BK323 := bkB BK323 hb; replace BK331 := bkB BK331 hb; replace HB := hbS hb; clear hb hg; have hnb46 := NB340_321.out; have hnc46 := NB321_340.out; have hnb47 := NB340_322.out; have hnc47 := NB322_340.out; have hnb48 := NB340_323.out; have hnc48 := NB323_340.out; have hnb49 := NB340_331.out; have hnc49 := NB331_340.out; obtain ⟨z50_0, z50_1, z50_2, z50_3, z50_4, z50_5, y50_0, y50_1, y50_2, y50_3, y50_4, y50_5⟩ := cz6 BK340; obtain ⟨z51_0, z51_1, z51_2, z51_3, z51_4, z51_5, y51_0, y51_1, y51_2, y51_3, y51_4, y51_5⟩ := cz6 BK323))
   refine bodyPost_ret (results_ct rfl _ _ gb323 86 #[.int .i64 0, .bool false, .int .i64 0, .int .u64 0, .int .u64 0, .bool false] (0, 0) _ rfl (bkT BK323) Try.underlying86 rfl (by kernel_rfl)) rfl ?_
   exact ⟨reT, hbT⟩
 ·rw [if_neg (show ¬ (some q332).isNone = true by simp)] at H
  try simp only [errW_none, errW_some]
  simp only [Option.some.injEq, Prod.mk.injEq] at H
  obtain ⟨rfl, rfl, rfl, rfl, rfl, rfl, rfl⟩ := H
  go_enter Try.func73, Try.ntmps73
  go_wp2_with (first | ((with_reducible refine gate_dst (N := 2) rfl ?_); refine boxA 2 (#[.int .i64 a0_0, .bool a0_1, .int .i64 a0_2, .int .u64 a0_3]) 103 ?_; intro gb321 hg w52 BK321 hb; have GW321 := geT hg; have GE321 := GW321; replace HB := hbS hb; clear hb hg) | ((with_reducible refine gate_dst (N := 3) rfl ?_); refine boxA 3 (#[.int .i64 a1_0, .bool a1_1, .int .i64 a1_2, .int .u64 a1_3]) 103 ?_; intro gb322 hg w53 BK322 hb; have GW322 := geT hg; have GE322 := GW322; obtain ⟨NB321_322, NB322_321⟩ := neT BK321 hg; replace BK321 := bkB BK321 hb; replace HB := hbS hb; clear hb hg) | ((with_reducible refine gate_dst (N := 4) rfl ?_); refine boxA 4 (#[.int .i64 0, .bool false, .int .i64 0, .int .u64 0, .int .u64 0, .bool false]) 86 ?_; intro gb323 hg w54 BK323 hb; have GW323 := geT hg; have GE323 := GW323; obtain ⟨NB321_323, NB323_321⟩ := neT BK321 hg; obtain ⟨NB322_323, NB323_322⟩ := neT BK322 hg; replace BK321 := bkB BK321 hb; replace BK322 := bkB BK322 hb; replace HB := hbS hb; clear hb hg; have hnb55 := NB321_322.out; have hnc55 := NB322_321.out; have hnb56 := NB321_323.out; have hnc56 := NB323_321.out; obtain ⟨z57_0, z57_1, z57_2, z57_3, y57_0, y57_1, y57_2, y57_3⟩ := cz4 BK321) | ((with_reducible refine gate_callee (f := 78) rfl ?_); refine goA (some 11) Try.func78 (round_Of.calls k a0_0 a0_1 a0_2 a0_3 t324 t325 t326 t327 t328 t329 (some q332) _ A3.out) ?_; intro w58 hb; replace BK321 := bkB BK321 hb; replace BK322 := bkB BK322 hb; replace BK323 := bkB BK323 hb; replace HB := hbS hb; clear hb; (try simp only [errW_none, errW_some])) | ((with_reducible refine gate_dst (N := 6) rfl ?_); refine boxA 6 (#[.int .i64 0, .bool false, .int .i64 0, .int .u64 0, .int .u64 0, .bool false]) 86 ?_; intro gb331 hg w59 BK331 hb; have GW331 := geT hg; have GE331 := GW331; obtain ⟨NB321_331, NB331_321⟩ := neT BK321 hg; obtain ⟨NB322_331, NB331_322⟩ := neT BK322 hg; obtain ⟨NB323_331, NB331_323⟩ := neT BK323 hg; replace BK321 := bkB BK321 hb; replace BK322 := bkB BK322 hb; replace BK323 := bkB BK323 hb; replace HB := hbS hb; clear hb hg; have hnb60 := NB331_321.out; have hnc60 := NB321_331.out; have hnb61 := NB331_322.out; have hnc61 := NB322_331.out; have hnb62 := NB331_323.out; have hnc62 := NB323_331.out; obtain ⟨z63_0, z63_1, z63_2, z63_3, z63_4, z63_5, y63_0, y63_1, y63_2, y63_3, y63_4, y63_5⟩ := cz6 BK331; have hnb64 := NB323_322.out; have hnc64 := NB322_323.out; obtain ⟨z65_0, z65_1, z65_2, z65_3, z65_4, z65_5, y65_0, y65_1, y65_2, y65_3, y65_4, y65_5⟩ := cz6 BK323))
  refine bodyPost_ret (results_ct rfl _ _ gb323 86 #[.int .i64 0, .bool false, .int .i64 0, .int .u64 0, .int .u64 0, .bool false] (0, 0) _ rfl (bkT BK323) Try.underlying86 rfl (by kernel_rfl)) rfl ?_
  exact ⟨reT, hbT⟩
end Go.Proofs.Ytnlbfomlfhigcaa.Q
namespace Go.Proofs.Ytnlbfomlfhigcaa.Q
open Go.RowKit Go.Proofs.YtnlbfomlfhigcaaW.PrintWords Go.Proofs.YtnlbfomlfhigcaaW.PrintLast Go.Proofs.YtnlbfomlfhigcaaW.PrintMore
attribute [local go_sem] max2_int min2_int max_two min_two max_three min_three max_four min_four
set_option linter.unusedVariables false
set_option linter.unusedSimpArgs false
def sum_Add.f (k : Nat) (a0 : Int) (a1 : Int) (a2 : Int) : Option (Int × Option Int) := (codec_Decode.f k a0 a1).bind fun bt348 => (if bt348.2.2.2.2.isNone = true then ((codec_Decode.f k a0 a2).bind fun bt355 => ((sum_Exact.f k bt348.1 bt348.2.1 bt348.2.2.1 bt348.2.2.2.1 bt355.1 bt355.2.1 bt355.2.2.1 bt355.2.2.2.1).bind fun bt361 => (if bt361.2.2.2.2.2.2.isNone = true then ((round_Round.f k a0 bt361.1 bt361.2.1 bt361.2.2.1 bt361.2.2.2.1 bt361.2.2.2.2.1 bt361.2.2.2.2.2.1).bind fun bt370 => (some (bt370.1, bt370.2))) else (some (0, some (bt361.2.2.2.2.2.2.getD 0)))))) else (some (0, some (bt348.2.2.2.2.getD 0))))
set_option maxHeartbeats 8000000 in
set_option maxRecDepth 100000 in
theorem sum_Add.calls (k : Nat) (a0 : Int) (a1 : Int) (a2 : Int) (r1 : Int) (r2 : Option Int) (w : World) (h : sum_Add.f k a0 a1 a2 = some (r1, r2)) :
  Calls Try.prog 32 #[.int .i64 a0, .int .u64 a1, .int .u64 a2] w fun e w' => e = .returned (.tuple #[.int .u64 r1, errW r2]) ∧ Below w.heap.size w w' := by
 have hu103 := Try.underlying103
 have hu86 := Try.underlying86
 have hu43 := Try.underlying43
 have hu82 := Try.underlying82
 have HB := Aside0.mk (Below.refl w.heap.size w)
 have H := h
 clear h
 unfold sum_Add.f at H
 replace H := Option.bind_eq_some_iff.mp H
 obtain ⟨⟨t348, t349, t350, t351, t352⟩, A40, H⟩ := H
 try dsimp only at H
 have A4 := Aside0.mk A40
 clear A40
 rcases t352 with _ | q354
 ·rw [if_pos (show (none : Option Int).isNone = true by rfl)] at H
  try simp only [errW_none, errW_some]
  replace H := Option.bind_eq_some_iff.mp H
  obtain ⟨⟨t355, t356, t357, t358, t359⟩, A50, H⟩ := H
  try dsimp only at H
  have A5 := Aside0.mk A50
  clear A50
  replace H := Option.bind_eq_some_iff.mp H
  obtain ⟨⟨t361, t362, t363, t364, t365, t366, t367⟩, A60, H⟩ := H
  try dsimp only at H
  have A6 := Aside0.mk A60
  clear A60
  rcases t367 with _ | q369
  ·rw [if_pos (show (none : Option Int).isNone = true by rfl)] at H
   try simp only [errW_none, errW_some]
   replace H := Option.bind_eq_some_iff.mp H
   obtain ⟨⟨t370, t371⟩, A70, H⟩ := H
   try dsimp only at H
   have A7 := Aside0.mk A70
   clear A70
   simp only [Option.some.injEq, Prod.mk.injEq] at H
   obtain ⟨rfl, rfl⟩ := H
   go_enter Try.func32, Try.ntmps32
   go_wp2_with (first | ((with_reducible refine gate_callee (f := 72) rfl ?_); refine goA (some 16) Try.func72 (codec_Decode.calls k a0 a1 t348 t349 t350 t351 none _ A4.out) ?_; intro w8 hb; replace HB := hbS hb; clear hb; (try simp only [errW_none, errW_some])) | ((with_reducible refine gate_dst (N := 8) rfl ?_); refine boxA 8 (#[.int .i64 0, .bool false, .int .i64 0, .int .u64 0]) 103 ?_; intro gb353 hg w9 BK353 hb; have GW353 := geT hg; have GE353 := GW353; replace HB := hbS hb; clear hb hg; obtain ⟨z10_0, z10_1, z10_2, z10_3, y10_0, y10_1, y10_2, y10_3⟩ := cz4 BK353) | ((with_reducible refine gate_callee (f := 72) rfl ?_); refine goA (some 25) Try.func72 (codec_Decode.calls k a0 a2 t355 t356 t357 t358 t359 _ A5.out) ?_; intro w11 hb; replace BK353 := bkB (o := .cells #[.int .i64 t348, .bool t349, .int .i64 t350, .int .u64 t351] 103 (0, 0)) BK353 hb; replace HB := hbS hb; clear hb; (try simp only [errW_none, errW_some])) | ((with_reducible refine gate_dst (N := 10) rfl ?_); refine boxA 10 (#[.int .i64 0, .bool false, .int .i64 0, .int .u64 0]) 103 ?_; intro gb360 hg w12 BK360 hb; have GW360 := geT hg; have GE360 := GW360; obtain ⟨NB353_360, NB360_353⟩ := neT BK353 hg; replace BK353 := bkB BK353 hb; replace HB := hbS hb; clear hb hg; have hnb13 := NB360_353.out; have hnc13 := NB353_360.out; obtain ⟨z14_0, z14_1, z14_2, z14_3, y14_0, y14_1, y14_2, y14_3⟩ := cz4 BK360; obtain ⟨z15_0, z15_1, z15_2, z15_3, y15_0, y15_1, y15_2, y15_3⟩ := cz4 BK353) | ((with_reducible refine gate_callee (f := 73) rfl ?_); refine goA (some 31) Try.func73 (sum_Exact.calls k t348 t349 t350 t351 t355 t356 t357 t358 t361 t362 t363 t364 t365 t366 none _ A6.out) ?_; intro w16 hb; replace BK353 := bkB BK353 hb; replace BK360 := bkB (o := .cells #[.int .i64 t355, .bool t356, .int .i64 t357, .int .u64 t358] 103 (0, 0)) BK360 hb; replace HB := hbS hb; clear hb; (try simp only [errW_none, errW_some])) | ((with_reducible refine gate_dst (N := 12) rfl ?_); refine boxA 12 (#[.int .i64 0, .bool false, .int .i64 0, .int .u64 0, .int .u64 0, .bool false]) 86 ?_; intro gb368 hg w17 BK368 hb; have GW368 := geT hg; have GE368 := GW368; obtain ⟨NB353_368, NB368_353⟩ := neT BK353 hg; obtain ⟨NB360_368, NB368_360⟩ := neT BK360 hg; replace BK353 := bkB BK353 hb; replace BK360 := bkB BK360 hb; replace HB := hbS hb; clear hb hg; have hnb18 := NB368_353.out; have hnc18 := NB353_368.out; have hnb19 := NB368_360.out; have hnc19 := NB360_368.out; obtain ⟨z20_0, z20_1, z20_2, z20_3, z20_4, z20_5, y20_0, y20_1, y20_2, y20_3, y20_4, y20_5⟩ := cz6 BK368) | ((with_reducible refine gate_callee (f := 74) rfl ?_); refine goA (some 39) Try.func74 (round_Round.calls k a0 t361 t362 t363 t364 t365 t366 t370 t371 _ A7.out) ?_; intro w21 hb; replace BK353 := bkB BK353 hb; replace BK360 := bkB BK360 hb; replace BK368 := bkB (o := .cells #[.int .i64 t361, .bool t362, .int .i64 t363, .int .u64 t364, .int .u64 t365, .bool t366] 86 (0, 0)) BK368 hb; replace HB := hbS hb; clear hb; (try simp only [errW_none, errW_some])))
   go_ret2
   exact ⟨reT, hbT⟩
  ·rw [if_neg (show ¬ (some q369).isNone = true by simp)] at H
   try simp only [errW_none, errW_some]
   simp only [Option.some.injEq, Prod.mk.injEq] at H
   obtain ⟨rfl, rfl⟩ := H
   go_enter Try.func32, Try.ntmps32
   go_wp2_with (first | ((with_reducible refine gate_callee (f := 72) rfl ?_); refine goA (some 16) Try.func72 (codec_Decode.calls k a0 a1 t348 t349 t350 t351 none _ A4.out) ?_; intro w22 hb; replace HB := hbS hb; clear hb; (try simp only [errW_none, errW_some])) | ((with_reducible refine gate_dst (N := 8) rfl ?_); refine boxA 8 (#[.int .i64 0, .bool false, .int .i64 0, .int .u64 0]) 103 ?_; intro gb353 hg w23 BK353 hb; have GW353 := geT hg; have GE353 := GW353; replace HB := hbS hb; clear hb hg; obtain ⟨z24_0, z24_1, z24_2, z24_3, y24_0, y24_1, y24_2, y24_3⟩ := cz4 BK353) | ((with_reducible refine gate_callee (f := 72) rfl ?_); refine goA (some 25) Try.func72 (codec_Decode.calls k a0 a2 t355 t356 t357 t358 t359 _ A5.out) ?_; intro w25 hb; replace BK353 := bkB (o := .cells #[.int .i64 t348, .bool t349, .int .i64 t350, .int .u64 t351] 103 (0, 0)) BK353 hb; replace HB := hbS hb; clear hb; (try simp only [errW_none, errW_some])) | ((with_reducible refine gate_dst (N := 10) rfl ?_); refine boxA 10 (#[.int .i64 0, .bool false, .int .i64 0, .int .u64 0]) 103 ?_; intro gb360 hg w26 BK360 hb; have GW360 := geT hg; have GE360 := GW360; obtain ⟨NB353_360, NB360_353⟩ := neT BK353 hg; replace BK353 := bkB BK353 hb; replace HB := hbS hb; clear hb hg; have hnb27 := NB360_353.out; have hnc27 := NB353_360.out; obtain ⟨z28_0, z28_1, z28_2, z28_3, y28_0, y28_1, y28_2, y28_3⟩ := cz4 BK360; obtain ⟨z29_0, z29_1, z29_2, z29_3, y29_0, y29_1, y29_2, y29_3⟩ := cz4 BK353) | ((with_reducible refine gate_callee (f := 73) rfl ?_); refine goA (some 31) Try.func73 (sum_Exact.calls k t348 t349 t350 t351 t355 t356 t357 t358 t361 t362 t363 t364 t365 t366 (some q369) _ A6.out) ?_; intro w30 hb; replace BK353 := bkB BK353 hb; replace BK360 := bkB (o := .cells #[.int .i64 t355, .bool t356, .int .i64 t357, .int .u64 t358] 103 (0, 0)) BK360 hb; replace HB := hbS hb; clear hb; (try simp only [errW_none, errW_some])) | ((with_reducible refine gate_dst (N := 12) rfl ?_); refine boxA 12 (#[.int .i64 0, .bool false, .int .i64 0, .int .u64 0, .int .u64 0, .bool false]) 86 ?_; intro gb368 hg w31 BK368 hb; have GW368 := geT hg; have GE368 := GW368; obtain ⟨NB353_368, NB368_353⟩ := neT BK353 hg; obtain ⟨NB360_368, NB368_360⟩ := neT BK360 hg; replace BK353 := bkB BK353 hb; replace BK360 := bkB BK360 hb; replace HB := hbS hb; clear hb hg; have hnb32 := NB368_353.out; have hnc32 := NB353_368.out; have hnb33 := NB368_360.out; have hnc33 := NB360_368.out; obtain ⟨z34_0, z34_1, z34_2, z34_3, z34_4, z34_5, y34_0, y34_1, y34_2, y34_3, y34_4, y34_5⟩ := cz6 BK368))
   go_ret2
   exact ⟨reT, hbT⟩
 ·rw [if_neg (show ¬ (some q354).isNone = true by simp)] at H
  try simp only [errW_none, errW_some]
  simp only [Option.some.injEq, Prod.mk.injEq] at H
  obtain ⟨rfl, rfl⟩ := H
  go_enter Try.func32, Try.ntmps32
  go_wp2_with (first | ((with_reducible refine gate_callee (f := 72) rfl ?_); refine goA (some 16) Try.func72 (codec_Decode.calls k a0 a1 t348 t349 t350 t351 (some q354) _ A4.out) ?_; intro w35 hb; replace HB := hbS hb; clear hb; (try simp only [errW_none, errW_some])) | ((with_reducible refine gate_dst (N := 8) rfl ?_); refine boxA 8 (#[.int .i64 0, .bool false, .int .i64 0, .int .u64 0]) 103 ?_; intro gb353 hg w36 BK353 hb; have GW353 := geT hg; have GE353 := GW353; replace HB := hbS hb; clear hb hg; obtain ⟨z37_0, z37_1, z37_2, z37_3, y37_0, y37_1, y37_2, y37_3⟩ := cz4 BK353))
  go_ret2
  exact ⟨reT, hbT⟩
end Go.Proofs.Ytnlbfomlfhigcaa.Q
namespace Go.Proofs.Ytnlbfomlfhigcaa.Q
open Go.RowKit Go.Proofs.YtnlbfomlfhigcaaW.PrintWords Go.Proofs.YtnlbfomlfhigcaaW.PrintLast Go.Proofs.YtnlbfomlfhigcaaW.PrintMore
attribute [local go_sem] max2_int min2_int max_two min_two max_three min_three max_four min_four
set_option linter.unusedVariables false
set_option linter.unusedSimpArgs false
def sum_Sub.f (k : Nat) (a0 : Int) (a1 : Int) (a2 : Int) : Option (Int × Option Int) := (sum_Add.f k a0 a1 (IntKind.u64.wrap (-a2))).bind fun bt913 => (some (bt913.1, bt913.2))
set_option maxHeartbeats 8000000 in
set_option maxRecDepth 100000 in
theorem sum_Sub.calls (k : Nat) (a0 : Int) (a1 : Int) (a2 : Int) (r1 : Int) (r2 : Option Int) (w : World) (h : sum_Sub.f k a0 a1 a2 = some (r1, r2)) :
  Calls Try.prog 52 #[.int .i64 a0, .int .u64 a1, .int .u64 a2] w fun e w' => e = .returned (.tuple #[.int .u64 r1, errW r2]) ∧ Below w.heap.size w w' := by
 have HB := Aside0.mk (Below.refl w.heap.size w)
 have H := h
 clear h
 unfold sum_Sub.f at H
 replace H := Option.bind_eq_some_iff.mp H
 obtain ⟨⟨t913, t914⟩, A40, H⟩ := H
 try dsimp only at H
 have A4 := Aside0.mk A40
 clear A40
 simp only [Option.some.injEq, Prod.mk.injEq] at H
 obtain ⟨rfl, rfl⟩ := H
 go_enter Try.func52, Try.ntmps52
 go_wp2_with (first | ((with_reducible refine gate_callee (f := 32) rfl ?_); refine goA (some 12) Try.func32 (sum_Add.calls k a0 a1 (IntKind.u64.wrap (-a2)) t913 t914 _ A4.out) ?_; intro w5 hb; replace HB := hbS hb; clear hb; (try simp only [errW_none, errW_some])))
 go_ret2
 exact ⟨reT, hbT⟩
end Go.Proofs.Ytnlbfomlfhigcaa.Q
namespace Go.Proofs.Ytnlbfomlfhigcaa.Q
open Go.RowKit Go.Proofs.YtnlbfomlfhigcaaW.PrintWords Go.Proofs.YtnlbfomlfhigcaaW.PrintLast Go.Proofs.YtnlbfomlfhigcaaW.PrintMore
attribute [local go_sem] max2_int min2_int max_two min_two max_three min_three max_four min_four
set_option linter.unusedVariables false
set_option linter.unusedSimpArgs false
def twin_Mul.f (a0 : Int) (a1 : Int) : Option (Int × Int) := (bits_Mul64.f a0 a1).bind fun bt587 => (some (bt587.1, bt587.2))
set_option maxHeartbeats 8000000 in
set_option maxRecDepth 100000 in
theorem twin_Mul.calls (a0 : Int) (a1 : Int) (r1 : Int) (r2 : Int) (w : World) (h : twin_Mul.f a0 a1 = some (r1, r2)) :
  Calls Try.prog 119 #[.int .u64 a0, .int .u64 a1] w fun e w' => e = .returned (.agg #[.int .u64 r1, .int .u64 r2]) ∧ Below w.heap.size w w' := by
 have hu155 := Try.underlying155
 have HB := Aside0.mk (Below.refl w.heap.size w)
 have H := h
 clear h
 unfold twin_Mul.f at H
 replace H := Option.bind_eq_some_iff.mp H
 obtain ⟨⟨t587, t588⟩, A30, H⟩ := H
 try dsimp only at H
 have A3 := Aside0.mk A30
 clear A30
 simp only [Option.some.injEq, Prod.mk.injEq] at H
 obtain ⟨rfl, rfl⟩ := H
 go_enter Try.func119, Try.ntmps119
 go_wp2_with (first | ((with_reducible refine gate_dst (N := 4) rfl ?_); refine boxA 4 (#[.int .u64 0, .int .u64 0]) 155 ?_; intro gb586 hg w4 BK586 hb; have GW586 := geT hg; have GE586 := GW586; replace HB := hbS hb; clear hb hg) | ((with_reducible refine gate_callee (f := 150) rfl ?_); refine goesL_ (some 10) rfl rfl Try.func150 (by kernel_rfl) rfl #[.int .u64 a0, .int .u64 a1] rfl (by (try simp only [List.map_toArray, List.map_cons, List.map_nil]); first | done | rfl | (simp only [List.length_drop, List.length_take]; rfl)) ?_; (with_reducible refine (bits_Mul64.calls a0 a1 t587 t588 _ A3.out).mono ?_); rintro e w' ⟨rfl, ⟨nd, rfl⟩⟩; refine ⟨_, rfl, ?_⟩; (try (rw [drewN_self w4]; generalize hq_ : World.drewN w4 _ = w4; have n0_ : Aside0 (w4.heap[gb586]? = some (.cells #[.int .u64 0, .int .u64 0] 155 (0, 0))) := ⟨by rw [← hq_]; exact (bkT BK586)⟩; have n1_ : Aside0 (Below w.heap.size w w4) := ⟨by rw [← hq_]; exact hbT⟩; clear BK586 HB hq_; have BK586 := n0_; have HB := n1_; clear n0_ n1_)); obtain ⟨z5_0, z5_1, y5_0, y5_1⟩ := cz2 BK586))
 refine bodyPost_ret (results_cell_row rfl _ _ gb586 155 #[.int .u64 t587, .int .u64 t588] (0, 0) _ rfl (bkT BK586) Try.underlying155 rfl (by kernel_rfl)) rfl ?_
 exact ⟨reT, hbT⟩
end Go.Proofs.Ytnlbfomlfhigcaa.Q
namespace Go.Proofs.Ytnlbfomlfhigcaa.Q
open Go.RowKit Go.Proofs.YtnlbfomlfhigcaaW.PrintWords Go.Proofs.YtnlbfomlfhigcaaW.PrintLast Go.Proofs.YtnlbfomlfhigcaaW.PrintMore
attribute [local go_sem] max2_int min2_int max_two min_two max_three min_three max_four min_four
set_option linter.unusedVariables false
set_option linter.unusedSimpArgs false
attribute [local go_sem high] eqA155
def twin_Norm.f (a0_0 : Int) (a0_1 : Int) : Option (Int × Int × Int) := if (a0_0 == 0 && (a0_1 == 0)) = true then (some (a0_0, a0_1, 0)) else ((twin_Len.f a0_0 a0_1).bind fun t591 => ((twin_shl.f a0_0 a0_1 (wrap64 (128 - t591))).bind fun bt592 => (some (bt592.1, bt592.2, wrap64 (128 - t591)))))
set_option maxHeartbeats 8000000 in
set_option maxRecDepth 100000 in
theorem twin_Norm.calls (a0_0 : Int) (a0_1 : Int) (r1 : Int) (r2 : Int) (r3 : Int) (w : World) (h : twin_Norm.f a0_0 a0_1 = some (r1, r2, r3)) :
  Calls Try.prog 151 #[.agg #[.int .u64 a0_0, .int .u64 a0_1]] w fun e w' => e = .returned (.tuple #[.agg #[.int .u64 r1, .int .u64 r2], .int .i64 r3]) ∧ Below w.heap.size w w' := by
 have hu155 := Try.underlying155
 have HB := Aside0.mk (Below.refl w.heap.size w)
 have H := h
 clear h
 unfold twin_Norm.f at H
 by_cases c2 : (a0_0 == 0 && (a0_1 == 0)) = true
 ·rw [if_pos c2] at H
  have c2b0 : (a0_0 == 0 && (a0_1 == 0)) = true := c2
  (try (have c2b1 : decide (a0_0 = 0 && (a0_1 == 0)) = true := by simpa using c2))
  (try (have c2b2 : (a0_0 == 0 && (a0_1 == 0)) = true := by simpa using c2))
  clear c2
  simp only [Option.some.injEq, Prod.mk.injEq] at H
  obtain ⟨rfl, rfl, rfl⟩ := H
  go_enter Try.func151, Try.ntmps151
  go_wp2_with (first | ((with_reducible refine gate_dst (N := 1) rfl ?_); refine boxA 1 (#[.int .u64 a0_0, .int .u64 a0_1]) 155 ?_; intro gb589 hg w3 BK589 hb; have GW589 := geT hg; have GE589 := GW589; replace HB := hbS hb; clear hb hg) | ((with_reducible refine gate_dst (N := 2) rfl ?_); refine boxA 2 (#[.int .u64 0, .int .u64 0]) 155 ?_; intro gb590 hg w4 BK590 hb; have GW590 := geT hg; have GE590 := GW590; obtain ⟨NB589_590, NB590_589⟩ := neT BK589 hg; replace BK589 := bkB BK589 hb; replace HB := hbS hb; clear hb hg; have hnb5 := NB589_590.out; have hnc5 := NB590_589.out; obtain ⟨z6_0, z6_1, y6_0, y6_1⟩ := cz2 BK589; obtain ⟨z7_0, z7_1, y7_0, y7_1⟩ := cz2 BK590))
  refine bodyPost_ret (results_ct rfl _ _ gb590 155 #[.int .u64 a0_0, .int .u64 a0_1] (0, 0) _ rfl (bkT BK590) Try.underlying155 rfl (by kernel_rfl)) rfl ?_
  exact ⟨reT, hbT⟩
 ·rw [if_neg c2] at H
  have c2b0 : (a0_0 == 0 && (a0_1 == 0)) = false := by simpa using c2
  (try (have c2b1 : decide (a0_0 = 0 && (a0_1 == 0)) = false := by simpa using c2))
  (try (have c2b2 : (a0_0 == 0 && (a0_1 == 0)) = false := by simpa using c2))
  (try (have c2b3 : ¬ (a0_0 = 0 && (a0_1 == 0)) := by simpa using c2))
  clear c2
  replace H := Option.bind_eq_some_iff.mp H
  obtain ⟨t591, A80, H⟩ := H
  try dsimp only at H
  have A8 := Aside0.mk A80
  clear A80
  replace H := Option.bind_eq_some_iff.mp H
  obtain ⟨⟨t592, t593⟩, A90, H⟩ := H
  try dsimp only at H
  have A9 := Aside0.mk A90
  clear A90
  simp only [Option.some.injEq, Prod.mk.injEq] at H
  obtain ⟨rfl, rfl, rfl⟩ := H
  go_enter Try.func151, Try.ntmps151
  go_wp2_with (first | ((with_reducible refine gate_dst (N := 1) rfl ?_); refine boxA 1 (#[.int .u64 a0_0, .int .u64 a0_1]) 155 ?_; intro gb589 hg w10 BK589 hb; have GW589 := geT hg; have GE589 := GW589; replace HB := hbS hb; clear hb hg) | ((with_reducible refine gate_dst (N := 2) rfl ?_); refine boxA 2 (#[.int .u64 0, .int .u64 0]) 155 ?_; intro gb590 hg w11 BK590 hb; have GW590 := geT hg; have GE590 := GW590; obtain ⟨NB589_590, NB590_589⟩ := neT BK589 hg; replace BK589 := bkB BK589 hb; replace HB := hbS hb; clear hb hg; have hnb12 := NB589_590.out; have hnc12 := NB590_589.out; obtain ⟨z13_0, z13_1, y13_0, y13_1⟩ := cz2 BK589) | ((with_reducible refine gate_callee (f := 155) rfl ?_); refine goA (some 10) Try.func155 (twin_Len.calls a0_0 a0_1 t591 _ A8.out) ?_; intro w14 hb; replace BK589 := bkB BK589 hb; replace BK590 := bkB BK590 hb; replace HB := hbS hb; clear hb; obtain ⟨z15_0, z15_1, y15_0, y15_1⟩ := cz2 BK589) | ((with_reducible refine gate_callee (f := 154) rfl ?_); refine goA (some 14) Try.func154 (twin_shl.calls a0_0 a0_1 (wrap64 (128 - t591)) t592 t593 _ A9.out) ?_; intro w16 hb; replace BK589 := bkB BK589 hb; replace BK590 := bkB BK590 hb; replace HB := hbS hb; clear hb; obtain ⟨z17_0, z17_1, y17_0, y17_1⟩ := cz2 BK590))
  refine bodyPost_ret (results_ct rfl _ _ gb590 155 #[.int .u64 t592, .int .u64 t593] (0, 0) _ rfl (bkT BK590) Try.underlying155 rfl (by kernel_rfl)) rfl ?_
  exact ⟨reT, hbT⟩
end Go.Proofs.Ytnlbfomlfhigcaa.Q
namespace Go.Proofs.Ytnlbfomlfhigcaa.Q
open Go.RowKit Go.Proofs.YtnlbfomlfhigcaaW.PrintWords Go.Proofs.YtnlbfomlfhigcaaW.PrintLast Go.Proofs.YtnlbfomlfhigcaaW.PrintMore
attribute [local go_sem] max2_int min2_int max_two min_two max_three min_three max_four min_four
set_option linter.unusedVariables false
set_option linter.unusedSimpArgs false
attribute [local go_sem high] eqA155
def round_Make.j0 : Nat → Bool → Int → Int → Int → Bool → Bool → Option (Int × Bool × Int × Int × Int × Bool × Option Int)
 | 0, _, _, _, _, _, _ => none
 | k + 1, x0, x1, x2, x3, x4, x19 => if x19 = true then (some (0, false, 0, 0, 0, false, some 1)) else ((twin_Norm.f x1 x2).bind fun bt595 => (if (bt595.1 == 0 && (bt595.2.1 == 0)) = true then (some (0, false, 0, 0, 0, false, none)) else ((round_held.f (wrap64 ((wrap64 ((mx (-4398046511104) (mn x3 4398046511104)) + 127)) - bt595.2.2))).bind fun t599 => (some (1, x0, t599, bt595.1, bt595.2.1, x4, none)))))
def round_Make.f (k : Nat) (a0 : Bool) (a1 : Int) (a2 : Int) (a3 : Int) (a4 : Bool) : Option (Int × Bool × Int × Int × Int × Bool × Option Int) := if a4 = true then (round_Make.j0 k a0 a1 a2 a3 a4 ((a1 / 9223372036854775808) == 0)) else (round_Make.j0 k a0 a1 a2 a3 a4 false)
def round_Make.T7 : Bool × List (List Nat × List Nat) := (true, [([], []), ([], []), ([1], [1]), ([], []), ([2, 3], [2, 3]), ([4], [4]), ([], []), ([6], [6]), ([], []), ([8], [8]), ([], []), ([0, 5, 7, 9, 10], [0, 5, 7, 9, 10]), ([11, 5, 0, 1, 2, 3, 4, 5, 6, 7, 8, 9, 10, 11], [11]), ([12, 0, 1, 2, 3, 4, 5, 6, 7, 8, 9, 10, 11, 12], [])])
def round_Make.B7 : List Nat := [0, 0, 2, 0, 14, 30, 0, 64, 0, 256, 0, 2047, 4095, 8191]
theorem round_Make.tab7 : rtab .any (opsOf Try.f120 7) = round_Make.T7 := by kernel_rfl
theorem round_Make.bits7 : waitsOk round_Make.T7.2 round_Make.B7 = true := by kernel_rfl
set_option maxHeartbeats 8000000 in
set_option maxRecDepth 100000 in
theorem round_Make.calls (k : Nat) (a0 : Bool) (a1 : Int) (a2 : Int) (a3 : Int) (a4 : Bool) (r1 : Int) (r2 : Bool) (r3 : Int) (r4 : Int) (r5 : Int) (r6 : Bool) (r7 : Option Int) (w : World) (h : round_Make.f k a0 a1 a2 a3 a4 = some (r1, r2, r3, r4, r5, r6, r7)) :
  Calls Try.prog 120 #[.bool a0, .int .u64 a1, .int .u64 a2, .int .i64 a3, .bool a4] w fun e w' => e = .returned (.tuple #[.agg #[.int .i64 r1, .bool r2, .int .i64 r3, .int .u64 r4, .int .u64 r5, .bool r6], errW r7]) ∧ Below w.heap.size w w' := by
 have hu86 := Try.underlying86
 have hu155 := Try.underlying155
 have hu43 := Try.underlying43
 have hu82 := Try.underlying82
 have HB := Aside0.mk (Below.refl w.heap.size w)
 have H := h
 clear h
 unfold round_Make.f at H
 have HC6 := Aside0.mk H
 clear H
 go_enter Try.func120, Try.ntmps120
 go_upto_region 1 with (first | ((with_reducible refine gate_dst (N := 10) rfl ?_); refine boxA 10 (#[.int .i64 0, .bool false, .int .i64 0, .int .u64 0, .int .u64 0, .bool false]) 86 ?_; intro gb594 hg w7 BK594 hb; have GW594 := geT hg; have GE594 := GW594; replace HB := hbS hb; clear hb hg))
 (try simp only [Act.put, List.setIfInBounds_toArray, List.set_cons_zero, List.set_cons_succ])
 go_cut [19] (fun v19 wc => ∃ (kq : Nat) (x19_5 : Bool), v19 = .bool x19_5 ∧ Aside0 (round_Make.j0 kq a0 a1 a2 a3 a4 x19_5 = some (r1, r2, r3, r4, r5, r6, r7)) ∧ Aside0 (kq ≤ k) ∧ Aside0 (wc.heap[gb594]? = some (.cells #[.int .i64 0, .bool false, .int .i64 0, .int .u64 0, .int .u64 0, .bool false] 86 (0, 0))) ∧ Aside0 (Below w.heap.size w wc))
 case first =>
  have H := HC6.out
  clear HC6
  by_cases c8 : a4 = true
  ·subst c8
   rw [if_pos rfl] at H
   have H' := Aside0.mk H
   clear H
   go_wp2
   go_meet
   case rel => exact ⟨_, (((a1 / 9223372036854775808) == 0)), okT, H', leT, ⟨bkT BK594⟩, ⟨hbT⟩⟩
  ·replace c8 := Bool.eq_false_iff.mpr c8
   subst c8
   rw [if_neg (show ¬ (false = true) by decide)] at H
   have H' := Aside0.mk H
   clear H
   go_wp2
   go_meet
   case rel => exact ⟨_, (false), okT, H', leT, ⟨bkT BK594⟩, ⟨hbT⟩⟩
 case rest =>
  clear HC6
  obtain ⟨kq, x19_5, rfl, HA, HJ5, BK594, HB⟩ := hcut
  cases kq with
  | zero => exact absurd HA.out (by simp [round_Make.j0])
  | succ kj5 =>
   have H := HA.out
   clear HA
   simp only [round_Make.j0] at H
   by_cases c9 : x19_5 = true
   ·subst c9
    rw [if_pos rfl] at H
    simp only [Option.some.injEq, Prod.mk.injEq] at H
    obtain ⟨rfl, rfl, rfl, rfl, rfl, rfl, rfl⟩ := H
    obtain ⟨z10_0, z10_1, z10_2, z10_3, z10_4, z10_5, y10_0, y10_1, y10_2, y10_3, y10_4, y10_5⟩ := cz6 BK594
    go_wp2
    refine bodyPost_ret (results_ct rfl _ _ gb594 86 #[.int .i64 0, .bool false, .int .i64 0, .int .u64 0, .int .u64 0, .bool false] (0, 0) _ rfl (bkT BK594) Try.underlying86 rfl (by kernel_rfl)) rfl ?_
    exact ⟨reT, hbT⟩
   ·replace c9 := Bool.eq_false_iff.mpr c9
    subst c9
    rw [if_neg (show ¬ (false = true) by decide)] at H
    replace H := Option.bind_eq_some_iff.mp H
    obtain ⟨⟨t595, t596, t597⟩, A110, H⟩ := H
    try dsimp only at H
    have A11 := Aside0.mk A110
    clear A110
    by_cases c12 : (t595 == 0 && (t596 == 0)) = true
    ·rw [if_pos c12] at H
     have c12b0 : (t595 == 0 && (t596 == 0)) = true := c12
     (try (have c12b1 : decide (t595 = 0 && (t596 == 0)) = true := by simpa using c12))
     (try (have c12b2 : (t595 == 0 && (t596 == 0)) = true := by simpa using c12))
     clear c12
     simp only [Option.some.injEq, Prod.mk.injEq] at H
     obtain ⟨rfl, rfl, rfl, rfl, rfl, rfl, rfl⟩ := H
     go_wp2_with (first | ((with_reducible refine gate_callee (f := 151) rfl ?_); refine goA (some 26) Try.func151 (twin_Norm.calls a1 a2 t595 t596 t597 _ A11.out) ?_; intro w13 hb; replace BK594 := bkB BK594 hb; replace HB := hbS hb; clear hb) | ((with_reducible refine gate_dst (N := 12) rfl ?_); refine boxA 12 (#[.int .u64 0, .int .u64 0]) 155 ?_; intro gb598 hg w14 BK598 hb; have GW598 := geT hg; have GE598 := GW598; obtain ⟨NB594_598, NB598_594⟩ := neT BK594 hg; replace BK594 := bkB BK594 hb; replace HB := hbS hb; clear hb hg; have hnb15 := NB598_594.out; have hnc15 := NB594_598.out; obtain ⟨z16_0, z16_1, y16_0, y16_1⟩ := cz2 BK598; obtain ⟨z17_0, z17_1, z17_2, z17_3, z17_4, z17_5, y17_0, y17_1, y17_2, y17_3, y17_4, y17_5⟩ := cz6 BK594))
     refine bodyPost_ret (results_ct rfl _ _ gb594 86 #[.int .i64 0, .bool false, .int .i64 0, .int .u64 0, .int .u64 0, .bool false] (0, 0) _ rfl (bkT BK594) Try.underlying86 rfl (by kernel_rfl)) rfl ?_
     exact ⟨reT, hbT⟩
    ·rw [if_neg c12] at H
     have c12b0 : (t595 == 0 && (t596 == 0)) = false := by simpa using c12
     (try (have c12b1 : decide (t595 = 0 && (t596 == 0)) = false := by simpa using c12))
     (try (have c12b2 : (t595 == 0 && (t596 == 0)) = false := by simpa using c12))
     (try (have c12b3 : ¬ (t595 = 0 && (t596 == 0)) := by simpa using c12))
     clear c12
     obtain ⟨ji18, hji18⟩ : ∃ j_ : Int, (mn a3 4398046511104) = j_ := ⟨_, rfl⟩
     replace H : ((round_held.f (wrap64 ((wrap64 ((mx (-4398046511104) (ji18)) + 127)) - t597))).bind fun t599 => (some (1, a0, t599, t595, t596, a4, none))) = some (r1, r2, r3, r4, r5, r6, r7) := by first | (rw [hji18] at H; exact H) | (simp only [hji18] at H ⊢; exact H)
     (try rw [hji18] at A11)
     have hji18_ : (if 4398046511104 < a3 then 4398046511104 else a3) = ji18 := hji18
     obtain ⟨ji19, hji19⟩ : ∃ j_ : Int, (mx (-4398046511104) (ji18)) = j_ := ⟨_, rfl⟩
     replace H : ((round_held.f (wrap64 ((wrap64 ((ji19) + 127)) - t597))).bind fun t599 => (some (1, a0, t599, t595, t596, a4, none))) = some (r1, r2, r3, r4, r5, r6, r7) := by first | (rw [hji19] at H; exact H) | (simp only [hji19] at H ⊢; exact H)
     (try rw [hji19] at A11)
     have hji19_ : (if (-4398046511104) < (ji18) then (ji18) else (-4398046511104)) = ji19 := hji19
     replace H := Option.bind_eq_some_iff.mp H
     obtain ⟨t599, A200, H⟩ := H
     try dsimp only at H
     have A20 := Aside0.mk A200
     clear A200
     simp only [Option.some.injEq, Prod.mk.injEq] at H
     obtain ⟨rfl, rfl, rfl, rfl, rfl, rfl, rfl⟩ := H
     try go_wp2_with (first | ((with_reducible refine gate_callee (f := 151) rfl ?_); refine goA (some 26) Try.func151 (twin_Norm.calls a1 a2 t595 t596 t597 _ A11.out) ?_; intro w21 hb; replace BK594 := bkB BK594 hb; replace HB := hbS hb; clear hb) | ((with_reducible refine gate_dst (N := 12) rfl ?_); refine boxA 12 (#[.int .u64 0, .int .u64 0]) 155 ?_; intro gb598 hg w22 BK598 hb; have GW598 := geT hg; have GE598 := GW598; obtain ⟨NB594_598, NB598_594⟩ := neT BK594 hg; replace BK594 := bkB BK594 hb; replace HB := hbS hb; clear hb hg; have hnb23 := NB598_594.out; have hnc23 := NB594_598.out; obtain ⟨z24_0, z24_1, y24_0, y24_1⟩ := cz2 BK598))
     have n0_ : Aside0 (((w22.setCell ⟨gb598, 0, none⟩ (.int .u64 t595)).setCell ⟨gb598, 1, none⟩ (.int .u64 t596)).heap[gb594]? = some (.cells #[.int .i64 0, .bool false, .int .i64 0, .int .u64 0, .int .u64 0, .bool false] 86 (0, 0))) := ⟨bkT BK594⟩
     have n1_ : Aside0 (((w22.setCell ⟨gb598, 0, none⟩ (.int .u64 t595)).setCell ⟨gb598, 1, none⟩ (.int .u64 t596)).heap[gb598]? = some (.cells #[.int .u64 t595, .int .u64 t596] 155 (0, 0))) := ⟨bkT BK598⟩
     have n2_ : Aside0 (Below w.heap.size w ((w22.setCell ⟨gb598, 0, none⟩ (.int .u64 t595)).setCell ⟨gb598, 1, none⟩ (.int .u64 t596))) := ⟨hbT⟩
     (try clear BK594)
     (try clear BK598)
     (try clear HB)
     generalize ((w22.setCell ⟨gb598, 0, none⟩ (.int .u64 t595)).setCell ⟨gb598, 1, none⟩ (.int .u64 t596)) = w25 at n0_ n1_ n2_ ⊢
     have BK594 := n0_
     have BK598 := n1_
     have HB := n2_
     clear n0_ n1_ n2_
     have n0_ := Aside0.mk (blk_drew BK594.out)
     have n1_ := Aside0.mk (blk_drew BK598.out)
     have n2_ := Aside0.mk (below_drew1 HB.out)
     clear BK594
     clear BK598
     clear HB
     have BK594 := n0_
     have BK598 := n1_
     have HB := n2_
     clear n0_ n1_ n2_
     refine start_ (n := 14) (S := fun w' => w'.cell? ⟨gb598, 0, none⟩ = some (.int .u64 t595) ∧ w'.cell? ⟨gb598, 1, none⟩ = some (.int .u64 t596)) (ds := []) #[false, false, false, false, false, false, false, false, false, false, false, false, false, false] (by kernel_rfl) rfl rfl ⟨(blk_cell BK598.out 0).trans rfl, (blk_cell BK598.out 1).trans rfl⟩ (fun hHeld => ?_); refine with_tabW round_Make.tab7 round_Make.bits7 (fun HT_ HW_ => ?_)
     generalize w25.drew = w26 at BK594 BK598 HB hHeld ⊢
     refine pure_ (i := 0) (N := some 36) (v := ?_) (a' := ?_) #[true, false, false, false, false, false, false, false, false, false, false, false, false, false] rfl rfl (any_of HT_.out (by kernel_rfl)) (fun _ _ _ h => h) (Or.inl ⟨by rfl, ?_⟩) ?_ ?_
     rotate_left
     ·intro w'
      go_simp
      with_reducible rfl
     rotate_left
     ·simp only [Act.put, List.setIfInBounds_toArray, List.set_cons_zero, List.set_cons_succ, i64_w, i32_w]
      rfl
     refine pure_ (i := 1) (N := some 37) (v := ?_) (a' := ?_) #[true, true, false, false, false, false, false, false, false, false, false, false, false, false] rfl rfl (any_of HT_.out (by kernel_rfl)) (fun _ _ _ h => h) (Or.inl ⟨by rfl, ?_⟩) ?_ ?_
     rotate_left
     ·intro w'
      go_simp
      with_reducible rfl
     rotate_left
     ·simp only [Act.put, List.setIfInBounds_toArray, List.set_cons_zero, List.set_cons_succ, i64_w, i32_w]
      rfl
     refine pure_ (i := 2) (N := some 38) (v := ?_) (a' := ?_) #[true, true, true, false, false, false, false, false, false, false, false, false, false, false] rfl rfl (any_of HT_.out (by kernel_rfl)) (fun _ _ _ h => h) (Or.inl ⟨by rfl, ?_⟩) ?_ ?_
     rotate_left
     ·intro w'
      go_simp
      with_reducible rfl
     rotate_left
     ·simp only [Act.put, List.setIfInBounds_toArray, List.set_cons_zero, List.set_cons_succ, i64_w, i32_w]
      rfl
     refine pure_ (i := 3) (N := some 39) (v := ?_) (a' := ?_) #[true, true, true, true, false, false, false, false, false, false, false, false, false, false] rfl rfl (any_of HT_.out (by kernel_rfl)) (fun _ _ _ h => h) (Or.inl ⟨by rfl, ?_⟩) ?_ ?_
     rotate_left
     ·intro w'
      go_simp
      with_reducible rfl
     rotate_left
     ·simp only [Act.put, List.setIfInBounds_toArray, List.set_cons_zero, List.set_cons_succ, i64_w, i32_w]
      rfl
     refine pure_ (i := 4) (N := some 40) (v := ?_) (a' := ?_) #[true, true, true, true, true, false, false, false, false, false, false, false, false, false] rfl rfl (any_of HT_.out (by kernel_rfl)) (fun _ _ _ h => h) (Or.inl ⟨by rfl, ?_⟩) ?_ ?_
     rotate_left
     ·intro w'
      go_simp
      with_reducible rfl
     rotate_left
     ·simp only [Act.put, List.setIfInBounds_toArray, List.set_cons_zero, List.set_cons_succ, i64_w, i32_w]
      rfl
     refine pure_ (i := 6) (N := some 42) (v := ?_) (a' := ?_) #[true, true, true, true, true, false, true, false, false, false, false, false, false, false] rfl rfl (any_of HT_.out (by kernel_rfl)) (fun _ _ _ h => h) (Or.inl ⟨by rfl, ?_⟩) ?_ ?_
     rotate_left
     ·intro w'
      go_simp
      with_reducible rfl
     rotate_left
     ·simp only [Act.put, List.setIfInBounds_toArray, List.set_cons_zero, List.set_cons_succ, i64_w, i32_w]
      rfl
     refine pure_ (i := 8) (N := some 44) (v := ?_) (a' := ?_) #[true, true, true, true, true, false, true, false, true, false, false, false, false, false] rfl rfl (any_of HT_.out (by kernel_rfl)) (fun _ _ _ h => h) (Or.inl ⟨by rfl, ?_⟩) ?_ ?_
     rotate_left
     ·intro w'
      go_simp
      with_reducible rfl
     rotate_left
     ·simp only [Act.put, List.setIfInBounds_toArray, List.set_cons_zero, List.set_cons_succ, i64_w, i32_w]
      rfl
     refine pure_ (i := 10) (N := some 46) (v := ?_) (a' := ?_) #[true, true, true, true, true, false, true, false, true, false, true, false, false, false] rfl rfl (any_of HT_.out (by kernel_rfl)) (fun _ _ _ h => h) (Or.inl ⟨by rfl, ?_⟩) ?_ ?_
     rotate_left
     ·intro w'
      go_simp
      with_reducible rfl
     rotate_left
     ·simp only [Act.put, List.setIfInBounds_toArray, List.set_cons_zero, List.set_cons_succ, i64_w, i32_w]
      rfl
     refine take_ (i := 7) (N := some 43) (v := ?_) (a' := ?_) #[true, true, true, true, true, false, true, true, true, false, true, false, false, false] rfl rfl (take_ofW HT_.out HW_.out (by kernel_rfl)) (fun _ _ _ h => h) (Or.inl ⟨by rfl, ?_⟩) hHeld ?_ ?_
     rotate_left
     ·rintro w' ⟨s0, s1⟩
      go_simp
      with_reducible rfl
     rotate_left
     ·simp only [Act.put, List.setIfInBounds_toArray, List.set_cons_zero, List.set_cons_succ, i64_w, i32_w]
      rfl
     refine take_ (i := 9) (N := some 45) (v := ?_) (a' := ?_) #[true, true, true, true, true, false, true, true, true, true, true, false, false, false] rfl rfl (take_ofW HT_.out HW_.out (by kernel_rfl)) (fun _ _ _ h => h) (Or.inl ⟨by rfl, ?_⟩) hHeld ?_ ?_
     rotate_left
     ·rintro w' ⟨s0, s1⟩
      go_simp
      with_reducible rfl
     rotate_left
     ·simp only [Act.put, List.setIfInBounds_toArray, List.set_cons_zero, List.set_cons_succ, i64_w, i32_w]
      rfl
     refine one_ (i := 5) (N := some 41) #[true, true, true, true, true, true, true, true, true, true, true, false, false, false] rfl rfl (one_of HT_.out (by kernel_rfl)) (by decide) (fun K hK => ?_)
     refine goes_ Try.func128 (by kernel_rfl) rfl #[.int .i64 (wrap64 ((wrap64 ((ji19) + 127)) - t597))] (by rfl) rfl rfl (by (try simp only [List.map_toArray, List.map_cons, List.map_nil]); first | done | (simp only [hji19]; rfl) | rfl | (simp only [List.length_drop, List.length_take]; rfl)) ?_
     with_reducible refine (round_held.calls (wrap64 ((wrap64 ((ji19) + 127)) - t597)) t599 _ A20.out).mono ?_
     rintro e w27 ⟨rfl, hb⟩
     refine ⟨_, rfl, ?_⟩
     have n0_ := bkB BK594 hb
     have n1_ := bkB BK598 hb
     have n2_ := hbS hb
     clear BK594
     clear BK598
     clear HB
     have BK594 := n0_
     have BK598 := n1_
     have HB := n2_
     clear n0_ n1_ n2_
     (try clear hb)
     (try clear hb2)
     (try clear hk)
     (try clear hi)
     refine hK.out _ _ ⟨(blk_cell BK598.out 0).trans rfl, (blk_cell BK598.out 1).trans rfl⟩ (fun hHeld => ?_)
     clear hK K
     refine norm_ (a' := ?_) ?_ ?_
     rotate_left
     ·show Act.put _ (some 41) _ = _
      simp only [Act.put, List.setIfInBounds_toArray, List.set_cons_zero, List.set_cons_succ, i64_w, i32_w]
      rfl
     refine pure_ (i := 11) (N := some 47) (v := ?_) (a' := ?_) #[true, true, true, true, true, true, true, true, true, true, true, true, false, false] rfl rfl (any_of HT_.out (by kernel_rfl)) (fun _ _ _ h => h) (Or.inl ⟨by rfl, ?_⟩) ?_ ?_
     rotate_left
     ·intro w'
      go_simp
      with_reducible rfl
     rotate_left
     ·simp only [Act.put, List.setIfInBounds_toArray, List.set_cons_zero, List.set_cons_succ, i64_w, i32_w]
      rfl
     refine one_ (i := 12) (N := none) #[true, true, true, true, true, true, true, true, true, true, true, true, true, false] rfl rfl (one_of HT_.out (by kernel_rfl)) (by decide) (fun K hK => ?_)
     have hs28 : w27.cell? ⟨gb594, 0, none⟩ = some (.int .i64 0) := (blk_cell BK594.out 0).trans rfl
     have hfs28 := blk_frozen BK594.out 0
     have hns28_1 := NB598_594.out
     have hms28_1 := NB594_598.out
     have hs29 : w27.cell? ⟨gb594, 1, none⟩ = some (.bool false) := (blk_cell BK594.out 1).trans rfl
     have hfs29 := blk_frozen BK594.out 1
     have hns29_1 := NB598_594.out
     have hms29_1 := NB594_598.out
     have hs30 : w27.cell? ⟨gb594, 2, none⟩ = some (.int .i64 0) := (blk_cell BK594.out 2).trans rfl
     have hfs30 := blk_frozen BK594.out 2
     have hns30_1 := NB598_594.out
     have hms30_1 := NB594_598.out
     have hs31 : w27.cell? ⟨gb594, 3, none⟩ = some (.int .u64 0) := (blk_cell BK594.out 3).trans rfl
     have hfs31 := blk_frozen BK594.out 3
     have hns31_1 := NB598_594.out
     have hms31_1 := NB594_598.out
     have hs32 : w27.cell? ⟨gb594, 4, none⟩ = some (.int .u64 0) := (blk_cell BK594.out 4).trans rfl
     have hfs32 := blk_frozen BK594.out 4
     have hns32_1 := NB598_594.out
     have hms32_1 := NB594_598.out
     have hs33 : w27.cell? ⟨gb594, 5, none⟩ = some (.bool false) := (blk_cell BK594.out 5).trans rfl
     have hfs33 := blk_frozen BK594.out 5
     have hns33_1 := NB598_594.out
     have hms33_1 := NB594_598.out
     refine skip_ (w1 := ?_) (by rfl) rfl ?_ ?_
     rotate_left
     ·go_simp
      rfl
     refine hK.out _ _ ⟨((cell_far (p := ⟨gb594, _, none⟩) NB598_594.out _).trans (((cell_far (p := ⟨gb594, _, none⟩) NB598_594.out _).trans (((cell_far (p := ⟨gb594, _, none⟩) NB598_594.out _).trans (((cell_far (p := ⟨gb594, _, none⟩) NB598_594.out _).trans (((cell_far (p := ⟨gb594, _, none⟩) NB598_594.out _).trans (((cell_far (p := ⟨gb594, _, none⟩) NB598_594.out _).trans (hHeld.1)))))))))))), ((cell_far (p := ⟨gb594, _, none⟩) NB598_594.out _).trans (((cell_far (p := ⟨gb594, _, none⟩) NB598_594.out _).trans (((cell_far (p := ⟨gb594, _, none⟩) NB598_594.out _).trans (((cell_far (p := ⟨gb594, _, none⟩) NB598_594.out _).trans (((cell_far (p := ⟨gb594, _, none⟩) NB598_594.out _).trans (((cell_far (p := ⟨gb594, _, none⟩) NB598_594.out _).trans (hHeld.2))))))))))))⟩ (fun hHeld => ?_)
     clear hK K
     refine pure_ (i := 13) (N := some 11) (v := ?_) (a' := ?_) #[true, true, true, true, true, true, true, true, true, true, true, true, true, true] rfl rfl (any_of HT_.out (by kernel_rfl)) (fun _ _ _ h => h) (Or.inl ⟨by rfl, ?_⟩) ?_ ?_
     rotate_left
     ·intro w'
      go_simp
      with_reducible rfl
     rotate_left
     ·simp only [Act.put, List.setIfInBounds_toArray, List.set_cons_zero, List.set_cons_succ, i64_w, i32_w]
      rfl
     refine done_ (done_of HT_.out (by kernel_rfl)) ?_
     try go_wp2
     refine bodyPost_ret (results_ct rfl _ _ gb594 86 #[.int .i64 1, .bool a0, .int .i64 t599, .int .u64 t595, .int .u64 t596, .bool a4] (0, 0) _ rfl (bkT BK594) Try.underlying86 rfl (by kernel_rfl)) rfl ?_
     exact ⟨by first | rfl | (simp [errW_none, errW_some] <;> rfl) | (simp only [← hji18, ← hji19]; first | rfl | (simp [errW_none, errW_some] <;> rfl)) | (simp [*, errW_none, errW_some] <;> rfl), hbT⟩
end Go.Proofs.Ytnlbfomlfhigcaa.Q
