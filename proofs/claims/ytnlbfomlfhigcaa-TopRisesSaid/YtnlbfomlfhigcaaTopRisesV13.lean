/- Walks and plain laws that the claim stands on: each theorem named calls says that a call of a function returns what its f computes; the others are plain laws of these f, and the words that the walks use. -/
import Derived.Test.YtnlbfomlfhigcaaTopRisesV2
import Derived.Test.YtnlbfomlfhigcaaTopRisesV4
import Derived.Test.YtnlbfomlfhigcaaTopRisesV12
import Derived.Test.YtnlbfomlfhigcaaTopRisesV7
import Derived.Test.YtnlbfomlfhigcaaTopRisesV8
import Derived.Test.YtnlbfomlfhigcaaTopRisesV11
namespace Go.Proofs.Ytnlbfomlfhigcaa.Q
open Go.RowKit Go.Proofs.YtnlbfomlfhigcaaW.PrintWords Go.Proofs.YtnlbfomlfhigcaaW.PrintLast Go.Proofs.YtnlbfomlfhigcaaW.PrintMore
attribute [local go_sem] max2_int min2_int max_two min_two max_three min_three max_four min_four
set_option linter.unusedVariables false
set_option linter.unusedSimpArgs false
def fuse_product.f (k : Nat) (a0 : Int) (a1 : Int) (a2 : Int) : Option (Int × Bool × Int × Int × Int × Bool × Option Int) := (codec_Decode.f k a0 a1).bind fun bt628 => (if bt628.2.2.2.2.isNone = true then ((codec_Decode.f k a0 a2).bind fun bt635 => ((prod_Exact.f k bt628.1 bt628.2.1 bt628.2.2.1 bt628.2.2.2.1 bt635.1 bt635.2.1 bt635.2.2.1 bt635.2.2.2.1).bind fun bt641 => (some (bt641.1, bt641.2.1, bt641.2.2.1, bt641.2.2.2.1, bt641.2.2.2.2.1, bt641.2.2.2.2.2.1, bt641.2.2.2.2.2.2)))) else (some (0, false, 0, 0, 0, false, some (bt628.2.2.2.2.getD 0))))
set_option maxHeartbeats 8000000 in
set_option maxRecDepth 100000 in
theorem fuse_product.calls (k : Nat) (a0 : Int) (a1 : Int) (a2 : Int) (r1 : Int) (r2 : Bool) (r3 : Int) (r4 : Int) (r5 : Int) (r6 : Bool) (r7 : Option Int) (w : World) (h : fuse_product.f k a0 a1 a2 = some (r1, r2, r3, r4, r5, r6, r7)) :
  Calls Try.prog 77 #[.int .i64 a0, .int .u64 a1, .int .u64 a2] w fun e w' => e = .returned (.tuple #[.agg #[.int .i64 r1, .bool r2, .int .i64 r3, .int .u64 r4, .int .u64 r5, .bool r6], errW r7]) ∧ Below w.heap.size w w' := by
 have hu86 := Try.underlying86
 have hu103 := Try.underlying103
 have hu43 := Try.underlying43
 have hu82 := Try.underlying82
 have HB := Aside0.mk (Below.refl w.heap.size w)
 have H := h
 clear h
 unfold fuse_product.f at H
 replace H := Option.bind_eq_some_iff.mp H
 obtain ⟨⟨t628, t629, t630, t631, t632⟩, A40, H⟩ := H
 try dsimp only at H
 have A4 := Aside0.mk A40
 clear A40
 rcases t632 with _ | q634
 ·rw [if_pos (show (none : Option Int).isNone = true by rfl)] at H
  try simp only [errW_none, errW_some]
  replace H := Option.bind_eq_some_iff.mp H
  obtain ⟨⟨t635, t636, t637, t638, t639⟩, A50, H⟩ := H
  try dsimp only at H
  have A5 := Aside0.mk A50
  clear A50
  replace H := Option.bind_eq_some_iff.mp H
  obtain ⟨⟨t641, t642, t643, t644, t645, t646, t647⟩, A60, H⟩ := H
  try dsimp only at H
  have A6 := Aside0.mk A60
  clear A60
  simp only [Option.some.injEq, Prod.mk.injEq] at H
  obtain ⟨rfl, rfl, rfl, rfl, rfl, rfl, rfl⟩ := H
  go_enter Try.func77, Try.ntmps77
  go_wp2_with (first | ((with_reducible refine gate_dst (N := 6) rfl ?_); refine boxA 6 (#[.int .i64 0, .bool false, .int .i64 0, .int .u64 0, .int .u64 0, .bool false]) 86 ?_; intro gb627 hg w7 BK627 hb; have GW627 := geT hg; have GE627 := GW627; replace HB := hbS hb; clear hb hg) | ((with_reducible refine gate_callee (f := 72) rfl ?_); refine goA (some 15) Try.func72 (codec_Decode.calls k a0 a1 t628 t629 t630 t631 none _ A4.out) ?_; intro w8 hb; replace BK627 := bkB BK627 hb; replace HB := hbS hb; clear hb; (try simp only [errW_none, errW_some])) | ((with_reducible refine gate_dst (N := 8) rfl ?_); refine boxA 8 (#[.int .i64 0, .bool false, .int .i64 0, .int .u64 0]) 103 ?_; intro gb633 hg w9 BK633 hb; have GW633 := geT hg; have GE633 := GW633; obtain ⟨NB627_633, NB633_627⟩ := neT BK627 hg; replace BK627 := bkB BK627 hb; replace HB := hbS hb; clear hb hg; have hnb10 := NB633_627.out; have hnc10 := NB627_633.out; obtain ⟨z11_0, z11_1, z11_2, z11_3, y11_0, y11_1, y11_2, y11_3⟩ := cz4 BK633) | ((with_reducible refine gate_callee (f := 72) rfl ?_); refine goA (some 25) Try.func72 (codec_Decode.calls k a0 a2 t635 t636 t637 t638 t639 _ A5.out) ?_; intro w12 hb; replace BK627 := bkB BK627 hb; replace BK633 := bkB (o := .cells #[.int .i64 t628, .bool t629, .int .i64 t630, .int .u64 t631] 103 (0, 0)) BK633 hb; replace HB := hbS hb; clear hb; (try simp only [errW_none, errW_some])) | ((with_reducible refine gate_dst (N := 10) rfl ?_); refine boxA 10 (#[.int .i64 0, .bool false, .int .i64 0, .int .u64 0]) 103 ?_; intro gb640 hg w13 BK640 hb; have GW640 := geT hg; have GE640 := GW640; obtain ⟨NB627_640, NB640_627⟩ := neT BK627 hg; obtain ⟨NB633_640, NB640_633⟩ := neT BK633 hg; replace BK627 := bkB BK627 hb; replace BK633 := bkB BK633 hb; replace HB := hbS hb; clear hb hg; have hnb14 := NB640_627.out; have hnc14 := NB627_640.out; have hnb15 := NB640_633.out; have hnc15 := NB633_640.out; obtain ⟨z16_0, z16_1, z16_2, z16_3, y16_0, y16_1, y16_2, y16_3⟩ := cz4 BK640; obtain ⟨z17_0, z17_1, z17_2, z17_3, y17_0, y17_1, y17_2, y17_3⟩ := cz4 BK633) | ((with_reducible refine gate_callee (f := 94) rfl ?_); refine goA (some 30) Try.func94 (prod_Exact.calls k t628 t629 t630 t631 t635 t636 t637 t638 t641 t642 t643 t644 t645 t646 t647 _ A6.out) ?_; intro w18 hb; replace BK627 := bkB BK627 hb; replace BK633 := bkB BK633 hb; replace BK640 := bkB (o := .cells #[.int .i64 t635, .bool t636, .int .i64 t637, .int .u64 t638] 103 (0, 0)) BK640 hb; replace HB := hbS hb; clear hb; (try simp only [errW_none, errW_some]); obtain ⟨z19_0, z19_1, z19_2, z19_3, z19_4, z19_5, y19_0, y19_1, y19_2, y19_3, y19_4, y19_5⟩ := cz6 BK627))
  refine bodyPost_ret (results_ct rfl _ _ gb627 86 #[.int .i64 t641, .bool t642, .int .i64 t643, .int .u64 t644, .int .u64 t645, .bool t646] (0, 0) _ rfl (bkT BK627) Try.underlying86 rfl (by kernel_rfl)) rfl ?_
  exact ⟨reT, hbT⟩
 ·rw [if_neg (show ¬ (some q634).isNone = true by simp)] at H
  try simp only [errW_none, errW_some]
  simp only [Option.some.injEq, Prod.mk.injEq] at H
  obtain ⟨rfl, rfl, rfl, rfl, rfl, rfl, rfl⟩ := H
  go_enter Try.func77, Try.ntmps77
  go_wp2_with (first | ((with_reducible refine gate_dst (N := 6) rfl ?_); refine boxA 6 (#[.int .i64 0, .bool false, .int .i64 0, .int .u64 0, .int .u64 0, .bool false]) 86 ?_; intro gb627 hg w20 BK627 hb; have GW627 := geT hg; have GE627 := GW627; replace HB := hbS hb; clear hb hg) | ((with_reducible refine gate_callee (f := 72) rfl ?_); refine goA (some 15) Try.func72 (codec_Decode.calls k a0 a1 t628 t629 t630 t631 (some q634) _ A4.out) ?_; intro w21 hb; replace BK627 := bkB BK627 hb; replace HB := hbS hb; clear hb; (try simp only [errW_none, errW_some])) | ((with_reducible refine gate_dst (N := 8) rfl ?_); refine boxA 8 (#[.int .i64 0, .bool false, .int .i64 0, .int .u64 0]) 103 ?_; intro gb633 hg w22 BK633 hb; have GW633 := geT hg; have GE633 := GW633; obtain ⟨NB627_633, NB633_627⟩ := neT BK627 hg; replace BK627 := bkB BK627 hb; replace HB := hbS hb; clear hb hg; have hnb23 := NB633_627.out; have hnc23 := NB627_633.out; obtain ⟨z24_0, z24_1, z24_2, z24_3, y24_0, y24_1, y24_2, y24_3⟩ := cz4 BK633; obtain ⟨z25_0, z25_1, z25_2, z25_3, z25_4, z25_5, y25_0, y25_1, y25_2, y25_3, y25_4, y25_5⟩ := cz6 BK627))
  refine bodyPost_ret (results_ct rfl _ _ gb627 86 #[.int .i64 0, .bool false, .int .i64 0, .int .u64 0, .int .u64 0, .bool false] (0, 0) _ rfl (bkT BK627) Try.underlying86 rfl (by kernel_rfl)) rfl ?_
  exact ⟨reT, hbT⟩
end Go.Proofs.Ytnlbfomlfhigcaa.Q
namespace Go.Proofs.Ytnlbfomlfhigcaa.Q
open Go.RowKit Go.Proofs.YtnlbfomlfhigcaaW.PrintWords Go.Proofs.YtnlbfomlfhigcaaW.PrintLast Go.Proofs.YtnlbfomlfhigcaaW.PrintMore
attribute [local go_sem] max2_int min2_int max_two min_two max_three min_three max_four min_four
set_option linter.unusedVariables false
set_option linter.unusedSimpArgs false
def fuse_Fma.f (k : Nat) (a0 : Int) (a1 : Int) (a2 : Int) (a3 : Int) : Option (Int × Option Int) := (fuse_product.f k a0 a1 a2).bind fun bt648 => (if bt648.2.2.2.2.2.2.isNone = true then ((codec_Decode.f k a0 a3).bind fun bt657 => ((round_Of.f k bt657.1 bt657.2.1 bt657.2.2.1 bt657.2.2.2.1).bind fun bt663 => ((broad_Sum.f k bt648.1 bt648.2.1 bt648.2.2.1 bt648.2.2.2.1 bt648.2.2.2.2.1 bt648.2.2.2.2.2.1 bt663.1 bt663.2.1 bt663.2.2.1 bt663.2.2.2.1 bt663.2.2.2.2.1 bt663.2.2.2.2.2.1).bind fun bt671 => ((round_Round.f k a0 bt671.1 bt671.2.1 bt671.2.2.1 bt671.2.2.2.1 bt671.2.2.2.2.1 bt671.2.2.2.2.2).bind fun bt677 => (some (bt677.1, bt677.2)))))) else (some (0, some (bt648.2.2.2.2.2.2.getD 0))))
set_option maxHeartbeats 8000000 in
set_option maxRecDepth 100000 in
theorem fuse_Fma.calls (k : Nat) (a0 : Int) (a1 : Int) (a2 : Int) (a3 : Int) (r1 : Int) (r2 : Option Int) (w : World) (h : fuse_Fma.f k a0 a1 a2 a3 = some (r1, r2)) :
  Calls Try.prog 34 #[.int .i64 a0, .int .u64 a1, .int .u64 a2, .int .u64 a3] w fun e w' => e = .returned (.tuple #[.int .u64 r1, errW r2]) ∧ Below w.heap.size w w' := by
 have hu86 := Try.underlying86
 have hu103 := Try.underlying103
 have hu43 := Try.underlying43
 have hu82 := Try.underlying82
 have HB := Aside0.mk (Below.refl w.heap.size w)
 have H := h
 clear h
 unfold fuse_Fma.f at H
 replace H := Option.bind_eq_some_iff.mp H
 obtain ⟨⟨t648, t649, t650, t651, t652, t653, t654⟩, A50, H⟩ := H
 try dsimp only at H
 have A5 := Aside0.mk A50
 clear A50
 rcases t654 with _ | q656
 ·rw [if_pos (show (none : Option Int).isNone = true by rfl)] at H
  try simp only [errW_none, errW_some]
  replace H := Option.bind_eq_some_iff.mp H
  obtain ⟨⟨t657, t658, t659, t660, t661⟩, A60, H⟩ := H
  try dsimp only at H
  have A6 := Aside0.mk A60
  clear A60
  replace H := Option.bind_eq_some_iff.mp H
  obtain ⟨⟨t663, t664, t665, t666, t667, t668, t669⟩, A70, H⟩ := H
  try dsimp only at H
  have A7 := Aside0.mk A70
  clear A70
  replace H := Option.bind_eq_some_iff.mp H
  obtain ⟨⟨t671, t672, t673, t674, t675, t676⟩, A80, H⟩ := H
  try dsimp only at H
  have A8 := Aside0.mk A80
  clear A80
  replace H := Option.bind_eq_some_iff.mp H
  obtain ⟨⟨t677, t678⟩, A90, H⟩ := H
  try dsimp only at H
  have A9 := Aside0.mk A90
  clear A90
  simp only [Option.some.injEq, Prod.mk.injEq] at H
  obtain ⟨rfl, rfl⟩ := H
  go_enter Try.func34, Try.ntmps34
  go_wp2_with (first | ((with_reducible refine gate_callee (f := 77) rfl ?_); refine goA (some 20) Try.func77 (fuse_product.calls k a0 a1 a2 t648 t649 t650 t651 t652 t653 none _ A5.out) ?_; intro w10 hb; replace HB := hbS hb; clear hb; (try simp only [errW_none, errW_some])) | ((with_reducible refine gate_dst (N := 10) rfl ?_); refine boxA 10 (#[.int .i64 0, .bool false, .int .i64 0, .int .u64 0, .int .u64 0, .bool false]) 86 ?_; intro gb655 hg w11 BK655 hb; have GW655 := geT hg; have GE655 := GW655; replace HB := hbS hb; clear hb hg; obtain ⟨z12_0, z12_1, z12_2, z12_3, z12_4, z12_5, y12_0, y12_1, y12_2, y12_3, y12_4, y12_5⟩ := cz6 BK655) | ((with_reducible refine gate_callee (f := 72) rfl ?_); refine goA (some 29) Try.func72 (codec_Decode.calls k a0 a3 t657 t658 t659 t660 t661 _ A6.out) ?_; intro w13 hb; replace BK655 := bkB (o := .cells #[.int .i64 t648, .bool t649, .int .i64 t650, .int .u64 t651, .int .u64 t652, .bool t653] 86 (0, 0)) BK655 hb; replace HB := hbS hb; clear hb; (try simp only [errW_none, errW_some])) | ((with_reducible refine gate_dst (N := 12) rfl ?_); refine boxA 12 (#[.int .i64 0, .bool false, .int .i64 0, .int .u64 0]) 103 ?_; intro gb662 hg w14 BK662 hb; have GW662 := geT hg; have GE662 := GW662; obtain ⟨NB655_662, NB662_655⟩ := neT BK655 hg; replace BK655 := bkB BK655 hb; replace HB := hbS hb; clear hb hg; have hnb15 := NB662_655.out; have hnc15 := NB655_662.out; obtain ⟨z16_0, z16_1, z16_2, z16_3, y16_0, y16_1, y16_2, y16_3⟩ := cz4 BK662) | ((with_reducible refine gate_callee (f := 78) rfl ?_); refine goA (some 34) Try.func78 (round_Of.calls k t657 t658 t659 t660 t663 t664 t665 t666 t667 t668 t669 _ A7.out) ?_; intro w17 hb; replace BK655 := bkB BK655 hb; replace BK662 := bkB (o := .cells #[.int .i64 t657, .bool t658, .int .i64 t659, .int .u64 t660] 103 (0, 0)) BK662 hb; replace HB := hbS hb; clear hb; (try simp only [errW_none, errW_some])) | ((with_reducible refine gate_dst (N := 14) rfl ?_); refine boxA 14 (#[.int .i64 0, .bool false, .int .i64 0, .int .u64 0, .int .u64 0, .bool false]) 86 ?_; intro gb670 hg w18 BK670 hb; have GW670 := geT hg; have GE670 := GW670; obtain ⟨NB655_670, NB670_655⟩ := neT BK655 hg; obtain ⟨NB662_670, NB670_662⟩ := neT BK662 hg; replace BK655 := bkB BK655 hb; replace BK662 := bkB BK662 hb; replace HB := hbS hb; clear hb hg; have hnb19 := NB670_655.out; have hnc19 := NB655_670.out; have hnb20 := NB670_662.out; have hnc20 := NB662_670.out; obtain ⟨z21_0, z21_1, z21_2, z21_3, z21_4, z21_5, y21_0, y21_1, y21_2, y21_3, y21_4, y21_5⟩ := cz6 BK670; obtain ⟨z22_0, z22_1, z22_2, z22_3, z22_4, z22_5, y22_0, y22_1, y22_2, y22_3, y22_4, y22_5⟩ := cz6 BK655) | ((with_reducible refine gate_callee (f := 79) rfl ?_); refine goA (some 40) Try.func79 (broad_Sum.calls k t648 t649 t650 t651 t652 t653 t663 t664 t665 t666 t667 t668 t671 t672 t673 t674 t675 t676 _ A8.out) ?_; intro w23 hb; replace BK655 := bkB BK655 hb; replace BK662 := bkB BK662 hb; replace BK670 := bkB (o := .cells #[.int .i64 t663, .bool t664, .int .i64 t665, .int .u64 t666, .int .u64 t667, .bool t668] 86 (0, 0)) BK670 hb; replace HB := hbS hb; clear hb) | ((with_reducible refine gate_callee (f := 74) rfl ?_); refine goA (some 41) Try.func74 (round_Round.calls k a0 t671 t672 t673 t674 t675 t676 t677 t678 _ A9.out) ?_; intro w24 hb; replace BK655 := bkB BK655 hb; replace BK662 := bkB BK662 hb; replace BK670 := bkB BK670 hb; replace HB := hbS hb; clear hb; (try simp only [errW_none, errW_some])))
  go_ret2
  exact ⟨reT, hbT⟩
 ·rw [if_neg (show ¬ (some q656).isNone = true by simp)] at H
  try simp only [errW_none, errW_some]
  simp only [Option.some.injEq, Prod.mk.injEq] at H
  obtain ⟨rfl, rfl⟩ := H
  go_enter Try.func34, Try.ntmps34
  go_wp2_with (first | ((with_reducible refine gate_callee (f := 77) rfl ?_); refine goA (some 20) Try.func77 (fuse_product.calls k a0 a1 a2 t648 t649 t650 t651 t652 t653 (some q656) _ A5.out) ?_; intro w25 hb; replace HB := hbS hb; clear hb; (try simp only [errW_none, errW_some])) | ((with_reducible refine gate_dst (N := 10) rfl ?_); refine boxA 10 (#[.int .i64 0, .bool false, .int .i64 0, .int .u64 0, .int .u64 0, .bool false]) 86 ?_; intro gb655 hg w26 BK655 hb; have GW655 := geT hg; have GE655 := GW655; replace HB := hbS hb; clear hb hg; obtain ⟨z27_0, z27_1, z27_2, z27_3, z27_4, z27_5, y27_0, y27_1, y27_2, y27_3, y27_4, y27_5⟩ := cz6 BK655))
  go_ret2
  exact ⟨reT, hbT⟩
end Go.Proofs.Ytnlbfomlfhigcaa.Q
namespace Go.Proofs.Ytnlbfomlfhigcaa.Q
open Go.RowKit Go.Proofs.YtnlbfomlfhigcaaW.PrintWords Go.Proofs.YtnlbfomlfhigcaaW.PrintLast Go.Proofs.YtnlbfomlfhigcaaW.PrintMore
attribute [local go_sem] max2_int min2_int max_two min_two max_three min_three max_four min_four
set_option linter.unusedVariables false
set_option linter.unusedSimpArgs false
def sum_Exact.f (k : Nat) (a0_0 : Int) (a0_1 : Bool) (a0_2 : Int) (a0_3 : Int) (a1_0 : Int) (a1_1 : Bool) (a1_2 : Int) (a1_3 : Int) : Option (Int × Bool × Int × Int × Int × Bool × Option Int) := (round_Of.f k a0_0 a0_1 a0_2 a0_3).bind fun bt324 => (if bt324.2.2.2.2.2.2.isNone = true then ((round_Of.f k a1_0 a1_1 a1_2 a1_3).bind fun bt333 => (if bt333.2.2.2.2.2.2.isNone = true then ((broad_Sum.f k bt324.1 bt324.2.1 bt324.2.2.1 bt324.2.2.2.1 bt324.2.2.2.2.1 bt324.2.2.2.2.2.1 bt333.1 bt333.2.1 bt333.2.2.1 bt333.2.2.2.1 bt333.2.2.2.2.1 bt333.2.2.2.2.2.1).bind fun bt342 => (some (bt342.1, bt342.2.1, bt342.2.2.1, bt342.2.2.2.1, bt342.2.2.2.2.1, bt342.2.2.2.2.2, none))) else (some (0, false, 0, 0, 0, false, some (bt333.2.2.2.2.2.2.getD 0))))) else (some (0, false, 0, 0, 0, false, some (bt324.2.2.2.2.2.2.getD 0))))
set_option maxHeartbeats 8000000 in
set_option maxRecDepth 100000 in
theorem sum_Exact.calls (k : Nat) (a0_0 : Int) (a0_1 : Bool) (a0_2 : Int) (a0_3 : Int) (a1_0 : Int) (a1_1 : Bool) (a1_2 : Int) (a1_3 : Int) (r1 : Int) (r2 : Bool) (r3 : Int) (r4 : Int) (r5 : Int) (r6 : Bool) (r7 : Option Int) (w : World) (h : sum_Exact.f k a0_0 a0_1 a0_2 a0_3 a1_0 a1_1 a1_2 a1_3 = some (r1, r2, r3, r4, r5, r6, r7)) :
  Calls Try.prog 73 #[.agg #[.int .i64 a0_0, .bool a0_1, .int .i64 a0_2, .int .u64 a0_3], .agg #[.int .i64 a1_0, .bool a1_1, .int .i64 a1_2, .int .u64 a1_3]] w fun e w' => e = .returned (.tuple #[.agg #[.int .i64 r1, .bool r2, .int .i64 r3, .int .u64 r4, .int .u64 r5, .bool r6], errW r7]) ∧ Below w.heap.size w w' := by
 have hu103 := Try.underlying103
 have hu86 := Try.underlying86
 have hu43 := Try.underlying43
 have hu82 := Try.underlying82
 have HB := Aside0.mk (Below.refl w.heap.size w)
 have H := h
 clear h
 unfold sum_Exact.f at H
 replace H := Option.bind_eq_some_iff.mp H
 obtain ⟨⟨t324, t325, t326, t327, t328, t329, t330⟩, A30, H⟩ := H
 try dsimp only at H
 have A3 := Aside0.mk A30
 clear A30
 rcases t330 with _ | q332
 ·rw [if_pos (show (none : Option Int).isNone = true by rfl)] at H
  try simp only [errW_none, errW_some]
  replace H := Option.bind_eq_some_iff.mp H
  obtain ⟨⟨t333, t334, t335, t336, t337, t338, t339⟩, A40, H⟩ := H
  try dsimp only at H
  have A4 := Aside0.mk A40
  clear A40
  rcases t339 with _ | q341
  ·rw [if_pos (show (none : Option Int).isNone = true by rfl)] at H
   try simp only [errW_none, errW_some]
   replace H := Option.bind_eq_some_iff.mp H
   obtain ⟨⟨t342, t343, t344, t345, t346, t347⟩, A50, H⟩ := H
   try dsimp only at H
   have A5 := Aside0.mk A50
   clear A50
   simp only [Option.some.injEq, Prod.mk.injEq] at H
   obtain ⟨rfl, rfl, rfl, rfl, rfl, rfl, rfl⟩ := H
   go_enter Try.func73, Try.ntmps73
   go_wp2_with (first | ((with_reducible refine gate_dst (N := 2) rfl ?_); refine boxA 2 (#[.int .i64 a0_0, .bool a0_1, .int .i64 a0_2, .int .u64 a0_3]) 103 ?_; intro gb321 hg w6 BK321 hb; have GW321 := geT hg; have GE321 := GW321; replace HB := hbS hb; clear hb hg) | ((with_reducible refine gate_dst (N := 3) rfl ?_); refine boxA 3 (#[.int .i64 a1_0, .bool a1_1, .int .i64 a1_2, .int .u64 a1_3]) 103 ?_; intro gb322 hg w7 BK322 hb; have GW322 := geT hg; have GE322 := GW322; obtain ⟨NB321_322, NB322_321⟩ := neT BK321 hg; replace BK321 := bkB BK321 hb; replace HB := hbS hb; clear hb hg) | ((with_reducible refine gate_dst (N := 4) rfl ?_); refine boxA 4 (#[.int .i64 0, .bool false, .int .i64 0, .int .u64 0, .int .u64 0, .bool false]) 86 ?_; intro gb323 hg w8 BK323 hb; have GW323 := geT hg; have GE323 := GW323; obtain ⟨NB321_323, NB323_321⟩ := neT BK321 hg; obtain ⟨NB322_323, NB323_322⟩ := neT BK322 hg; replace BK321 := bkB BK321 hb; replace BK322 := bkB BK322 hb; replace HB := hbS hb; clear hb hg; have hnb9 := NB321_322.out; have hnc9 := NB322_321.out; have hnb10 := NB321_323.out; have hnc10 := NB323_321.out; obtain ⟨z11_0, z11_1, z11_2, z11_3, y11_0, y11_1, y11_2, y11_3⟩ := cz4 BK321) | ((with_reducible refine gate_callee (f := 78) rfl ?_); refine goA (some 11) Try.func78 (round_Of.calls k a0_0 a0_1 a0_2 a0_3 t324 t325 t326 t327 t328 t329 none _ A3.out) ?_; intro w12 hb; replace BK321 := bkB BK321 hb; replace BK322 := bkB BK322 hb; replace BK323 := bkB BK323 hb; replace HB := hbS hb; clear hb; (try simp only [errW_none, errW_some])) | ((with_reducible refine gate_dst (N := 6) rfl ?_); refine boxA 6 (#[.int .i64 0, .bool false, .int .i64 0, .int .u64 0, .int .u64 0, .bool false]) 86 ?_; intro gb331 hg w13 BK331 hb; have GW331 := geT hg; have GE331 := GW331; obtain ⟨NB321_331, NB331_321⟩ := neT BK321 hg; obtain ⟨NB322_331, NB331_322⟩ := neT BK322 hg; obtain ⟨NB323_331, NB331_323⟩ := neT BK323 hg; replace BK321 := bkB BK321 hb; replace BK322 := bkB BK322 hb; replace BK323 := bkB BK323 hb; replace HB := hbS hb; clear hb hg; have hnb14 := NB331_321.out; have hnc14 := NB321_331.out; have hnb15 := NB331_322.out; have hnc15 := NB322_331.out; have hnb16 := NB331_323.out; have hnc16 := NB323_331.out; obtain ⟨z17_0, z17_1, z17_2, z17_3, z17_4, z17_5, y17_0, y17_1, y17_2, y17_3, y17_4, y17_5⟩ := cz6 BK331; have hnb18 := NB322_323.out; have hnc18 := NB323_322.out; obtain ⟨z19_0, z19_1, z19_2, z19_3, y19_0, y19_1, y19_2, y19_3⟩ := cz4 BK322) | ((with_reducible refine gate_callee (f := 78) rfl ?_); refine goA (some 20) Try.func78 (round_Of.calls k a1_0 a1_1 a1_2 a1_3 t333 t334 t335 t336 t337 t338 none _ A4.out) ?_; intro w20 hb; replace BK321 := bkB BK321 hb; replace BK322 := bkB BK322 hb; replace BK323 := bkB BK323 hb; replace BK331 := bkB (o := .cells #[.int .i64 t324, .bool t325, .int .i64 t326, .int .u64 t327, .int .u64 t328, .bool t329] 86 (0, 0)) BK331 hb; replace HB := hbS hb; clear hb; (try simp only [errW_none, errW_some])) | ((with_reducible refine gate_dst (N := 8) rfl ?_); refine boxA 8 (#[.int .i64 0, .bool false, .int .i64 0, .int .u64 0, .int .u64 0, .bool false]) 86 ?_; intro gb340 hg w21 BK340 hb; have GW340 := geT hg; have GE340 := GW340; obtain ⟨NB321_340, NB340_321⟩ := neT BK321 hg; obtain ⟨NB322_340, NB340_322⟩ := neT BK322 hg; obtain ⟨NB323_340, NB340_323⟩ := neT BK323 hg; obtain ⟨NB331_340, NB340_331⟩ := neT BK331 hg; replace BK321 := bkB BK321 hb; replace BK322 := bkB BK322 hb; replace BK323 := bkB BK323 hb; replace BK331 := bkB BK331 hb; replace HB := hbS hb; clear hb hg; have hnb22 := NB340_321.out; have hnc22 := NB321_340.out; have hnb23 := NB340_322.out; have hnc23 := NB322_340.out; have hnb24 := NB340_323.out; have hnc24 := NB323_340.out; have hnb25 := NB340_331.out; have hnc25 := NB331_340.out; obtain ⟨z26_0, z26_1, z26_2, z26_3, z26_4, z26_5, y26_0, y26_1, y26_2, y26_3, y26_4, y26_5⟩ := cz6 BK340; obtain ⟨z27_0, z27_1, z27_2, z27_3, z27_4, z27_5, y27_0, y27_1, y27_2, y27_3, y27_4, y27_5⟩ := cz6 BK331) | ((with_reducible refine gate_callee (f := 79) rfl ?_); refine goA (some 29) Try.func79 (broad_Sum.calls k t324 t325 t326 t327 t328 t329 t333 t334 t335 t336 t337 t338 t342 t343 t344 t345 t346 t347 _ A5.out) ?_; intro w28 hb; replace BK321 := bkB BK321 hb; replace BK322 := bkB BK322 hb; replace BK323 := bkB BK323 hb; replace BK331 := bkB BK331 hb; replace BK340 := bkB (o := .cells #[.int .i64 t333, .bool t334, .int .i64 t335, .int .u64 t336, .int .u64 t337, .bool t338] 86 (0, 0)) BK340 hb; replace HB := hbS hb; clear hb; obtain ⟨z29_0, z29_1, z29_2, z29_3, z29_4, z29_5, y29_0, y29_1, y29_2, y29_3, y29_4, y29_5⟩ := cz6 BK323))
   refine bodyPost_ret (results_ct rfl _ _ gb323 86 #[.int .i64 t342, .bool t343, .int .i64 t344, .int .u64 t345, .int .u64 t346, .bool t347] (0, 0) _ rfl (bkT BK323) Try.underlying86 rfl (by kernel_rfl)) rfl ?_
   exact ⟨reT, hbT⟩
  ·rw [if_neg (show ¬ (some q341).isNone = true by simp)] at H
   try simp only [errW_none, errW_some]
   simp only [Option.some.injEq, Prod.mk.injEq] at H
   obtain ⟨rfl, rfl, rfl, rfl, rfl, rfl, rfl⟩ := H
   go_enter Try.func73, Try.ntmps73
   go_wp2_with (first | ((with_reducible refine gate_dst (N := 2) rfl ?_); refine boxA 2 (#[.int .i64 a0_0, .bool a0_1, .int .i64 a0_2, .int .u64 a0_3]) 103 ?_; intro gb321 hg w30 BK321 hb; have GW321 := geT hg; have GE321 := GW321; replace HB := hbS hb; clear hb hg) | ((with_reducible refine gate_dst (N := 3) rfl ?_); refine boxA 3 (#[.int .i64 a1_0, .bool a1_1, .int .i64 a1_2, .int .u64 a1_3]) 103 ?_; intro gb322 hg w31 BK322 hb; have GW322 := geT hg; have GE322 := GW322; obtain ⟨NB321_322, NB322_321⟩ := neT BK321 hg; replace BK321 := bkB BK321 hb; replace HB := hbS hb; clear hb hg) | ((with_reducible refine gate_dst (N := 4) rfl ?_); refine boxA 4 (#[.int .i64 0, .bool false, .int .i64 0, .int .u64 0, .int .u64 0, .bool false]) 86 ?_; intro gb323 hg w32 BK323 hb; have GW323 := geT hg; have GE323 := GW323; obtain ⟨NB321_323, NB323_321⟩ := neT BK321 hg; obtain ⟨NB322_323, NB323_322⟩ := neT BK322 hg; replace BK321 := bkB BK321 hb; replace BK322 := bkB BK322 hb; replace HB := hbS hb; clear hb hg; have hnb33 := NB321_322.out; have hnc33 := NB322_321.out; have hnb34 := NB321_323.out; have hnc34 := NB323_321.out; obtain ⟨z35_0, z35_1, z35_2, z35_3, y35_0, y35_1, y35_2, y35_3⟩ := cz4 BK321) | ((with_reducible refine gate_callee (f := 78) rfl ?_); refine goA (some 11) Try.func78 (round_Of.calls k a0_0 a0_1 a0_2 a0_3 t324 t325 t326 t327 t328 t329 none _ A3.out) ?_; intro w36 hb; replace BK321 := bkB BK321 hb; replace BK322 := bkB BK322 hb; replace BK323 := bkB BK323 hb; replace HB := hbS hb; clear hb; (try simp only [errW_none, errW_some])) | ((with_reducible refine gate_dst (N := 6) rfl ?_); refine boxA 6 (#[.int .i64 0, .bool false, .int .i64 0, .int .u64 0, .int .u64 0, .bool false]) 86 ?_; intro gb331 hg w37 BK331 hb; have GW331 := geT hg; have GE331 := GW331; obtain ⟨NB321_331, NB331_321⟩ := neT BK321 hg; obtain ⟨NB322_331, NB331_322⟩ := neT BK322 hg; obtain ⟨NB323_331, NB331_323⟩ := neT BK323 hg; replace BK321 := bkB BK321 hb; replace BK322 := bkB BK322 hb; replace BK323 := bkB BK323 hb; replace HB := hbS hb; clear hb hg; have hnb38 := NB331_321.out; have hnc38 := NB321_331.out; have hnb39 := NB331_322.out; have hnc39 := NB322_331.out; have hnb40 := NB331_323.out; have hnc40 := NB323_331.out; obtain ⟨z41_0, z41_1, z41_2, z41_3, z41_4, z41_5, y41_0, y41_1, y41_2, y41_3, y41_4, y41_5⟩ := cz6 BK331; have hnb42 := NB322_323.out; have hnc42 := NB323_322.out; obtain ⟨z43_0, z43_1, z43_2, z43_3, y43_0, y43_1, y43_2, y43_3⟩ := cz4 BK322) | ((with_reducible refine gate_callee (f := 78) rfl ?_); refine goA (some 20) Try.func78 (round_Of.calls k a1_0 a1_1 a1_2 a1_3 t333 t334 t335 t336 t337 t338 (some q341) _ A4.out) ?_; intro w44 hb; replace BK321 := bkB BK321 hb; replace BK322 := bkB BK322 hb; replace BK323 := bkB BK323 hb; replace BK331 := bkB (o := .cells #[.int .i64 t324, .bool t325, .int .i64 t326, .int .u64 t327, .int .u64 t328, .bool t329] 86 (0, 0)) BK331 hb; replace HB := hbS hb; clear hb; (try simp only [errW_none, errW_some])) | ((with_reducible refine gate_dst (N := 8) rfl ?_); refine boxA 8 (#[.int .i64 0, .bool false, .int .i64 0, .int .u64 0, .int .u64 0, .bool false]) 86 ?_; intro gb340 hg w45 BK340 hb; have GW340 := geT hg; have GE340 := GW340; obtain ⟨NB321_340, NB340_321⟩ := neT BK321 hg; obtain ⟨NB322_340, NB340_322⟩ := neT BK322 hg; obtain ⟨NB323_340, NB340_323⟩ := neT BK323 hg; obtain ⟨NB331_340, NB340_331⟩ := neT BK331 hg; replace BK321 := bkB BK321 hb; replace BK322 := bkB BK322 hb; replace BK323 := bkB BK323 hb; replace BK331 := bkB BK331 hb; replace HB := hbS hb; clear hb hg; have hnb46 := NB340_321.out; have hnc46 := NB321_340.out; have hnb47 := NB340_322.out; have hnc47 := NB322_340.out; have hnb48 := NB340_323.out; have hnc48 := NB323_340.out; have hnb49 := NB340_331.out; have hnc49 := NB331_340.out; obtain ⟨z50_0, z50_1, z50_2, z50_3, z50_4, z50_5, y50_0, y50_1, y50_2, y50_3, y50_4, y50_5⟩ := cz6 BK340; obtain ⟨z51_0, z51_1, z51_2, z51_3, z51_4, z51_5, y51_0, y51_1, y51_2, y51_3, y51_4, y51_5⟩ := cz6 BK323))
   refine bodyPost_ret (results_ct rfl _ _ gb323 86 #[.int .i64 0, .bool false, .int .i64 0, .int .u64 0, .int .u64 0, .bool false] (0, 0) _ rfl (bkT BK323) Try.underlying86 rfl (by kernel_rfl)) rfl ?_
   exact ⟨reT, hbT⟩
 ·rw [if_neg (show ¬ (some q332).isNone = true by simp)] at H
  try simp only [errW_none, errW_some]
  simp only [Option.some.injEq, Prod.mk.injEq] at H
  obtain ⟨rfl, rfl, rfl, rfl, rfl, rfl, rfl⟩ := H
  go_enter Try.func73, Try.ntmps73
  go_wp2_with (first | ((with_reducible refine gate_dst (N := 2) rfl ?_); refine boxA 2 (#[.int .i64 a0_0, .bool a0_1, .int .i64 a0_2, .int .u64 a0_3]) 103 ?_; intro gb321 hg w52 BK321 hb; have GW321 := geT hg; have GE321 := GW321; replace HB := hbS hb; clear hb hg) | ((with_reducible refine gate_dst (N := 3) rfl ?_); refine boxA 3 (#[.int .i64 a1_0, .bool a1_1, .int .i64 a1_2, .int .u64 a1_3]) 103 ?_; intro gb322 hg w53 BK322 hb; have GW322 := geT hg; have GE322 := GW322; obtain ⟨NB321_322, NB322_321⟩ := neT BK321 hg; replace BK321 := bkB BK321 hb; replace HB := hbS hb; clear hb hg) | ((with_reducible refine gate_dst (N := 4) rfl ?_); refine boxA 4 (#[.int .i64 0, .bool false, .int .i64 0, .int .u64 0, .int .u64 0, .bool false]) 86 ?_; intro gb323 hg w54 BK323 hb; have GW323 := geT hg; have GE323 := GW323; obtain ⟨NB321_323, NB323_321⟩ := neT BK321 hg; obtain ⟨NB322_323, NB323_322⟩ := neT BK322 hg; replace BK321 := bkB BK321 hb; replace BK322 := bkB BK322 hb; replace HB := hbS hb; clear hb hg; have hnb55 := NB321_322.out; have hnc55 := NB322_321.out; have hnb56 := NB321_323.out; have hnc56 := NB323_321.out; obtain ⟨z57_0, z57_1, z57_2, z57_3, y57_0, y57_1, y57_2, y57_3⟩ := cz4 BK321) | ((with_reducible refine gate_callee (f := 78) rfl ?_); refine goA (some 11) Try.func78 (round_Of.calls k a0_0 a0_1 a0_2 a0_3 t324 t325 t326 t327 t328 t329 (some q332) _ A3.out) ?_; intro w58 hb; replace BK321 := bkB BK321 hb; replace BK322 := bkB BK322 hb; replace BK323 := bkB BK323 hb; replace HB := hbS hb; clear hb; (try simp only [errW_none, errW_some])) | ((with_reducible refine gate_dst (N := 6) rfl ?_); refine boxA 6 (#[.int .i64 0, .bool false, .int .i64 0, .int .u64 0, .int .u64 0, .bool false]) 86 ?_; intro gb331 hg w59 BK331 hb; have GW331 := geT hg; have GE331 := GW331; obtain ⟨NB321_331, NB331_321⟩ := neT BK321 hg; obtain ⟨NB322_331, NB331_322⟩ := neT BK322 hg; obtain ⟨NB323_331, NB331_323⟩ := neT BK323 hg; replace BK321 := bkB BK321 hb; replace BK322 := bkB BK322 hb; replace BK323 := bkB BK323 hb; replace HB := hbS hb; clear hb hg; have hnb60 := NB331_321.out; have hnc60 := NB321_331.out; have hnb61 := NB331_322.out; have hnc61 := NB322_331.out; have hnb62 := NB331_323.out; have hnc62 := NB323_331.out; obtain ⟨z63_0, z63_1, z63_2, z63_3, z63_4, z63_5, y63_0, y63_1, y63_2, y63_3, y63_4, y63_5⟩ := cz6 BK331; have hnb64 := NB323_322.out; have hnc64 := NB322_323.out; obtain ⟨z65_0, z65_1, z65_2, z65_3, z65_4, z65_5, y65_0, y65_1, y65_2, y65_3, y65_4, y65_5⟩ := cz6 BK323))
  refine bodyPost_ret (results_ct rfl _ _ gb323 86 #[.int .i64 0, .bool false, .int .i64 0, .int .u64 0, .int .u64 0, .bool false] (0, 0) _ rfl (bkT BK323) Try.underlying86 rfl (by kernel_rfl)) rfl ?_
  exact ⟨reT, hbT⟩
end Go.Proofs.Ytnlbfomlfhigcaa.Q
namespace Go.Proofs.Ytnlbfomlfhigcaa.Q
open Go.RowKit Go.Proofs.YtnlbfomlfhigcaaW.PrintWords Go.Proofs.YtnlbfomlfhigcaaW.PrintLast Go.Proofs.YtnlbfomlfhigcaaW.PrintMore
attribute [local go_sem] max2_int min2_int max_two min_two max_three min_three max_four min_four
set_option linter.unusedVariables false
set_option linter.unusedSimpArgs false
def sum_Add.f (k : Nat) (a0 : Int) (a1 : Int) (a2 : Int) : Option (Int × Option Int) := (codec_Decode.f k a0 a1).bind fun bt348 => (if bt348.2.2.2.2.isNone = true then ((codec_Decode.f k a0 a2).bind fun bt355 => ((sum_Exact.f k bt348.1 bt348.2.1 bt348.2.2.1 bt348.2.2.2.1 bt355.1 bt355.2.1 bt355.2.2.1 bt355.2.2.2.1).bind fun bt361 => (if bt361.2.2.2.2.2.2.isNone = true then ((round_Round.f k a0 bt361.1 bt361.2.1 bt361.2.2.1 bt361.2.2.2.1 bt361.2.2.2.2.1 bt361.2.2.2.2.2.1).bind fun bt370 => (some (bt370.1, bt370.2))) else (some (0, some (bt361.2.2.2.2.2.2.getD 0)))))) else (some (0, some (bt348.2.2.2.2.getD 0))))
set_option maxHeartbeats 8000000 in
set_option maxRecDepth 100000 in
theorem sum_Add.calls (k : Nat) (a0 : Int) (a1 : Int) (a2 : Int) (r1 : Int) (r2 : Option Int) (w : World) (h : sum_Add.f k a0 a1 a2 = some (r1, r2)) :
  Calls Try.prog 32 #[.int .i64 a0, .int .u64 a1, .int .u64 a2] w fun e w' => e = .returned (.tuple #[.int .u64 r1, errW r2]) ∧ Below w.heap.size w w' := by
 have hu103 := Try.underlying103
 have hu86 := Try.underlying86
 have hu43 := Try.underlying43
 have hu82 := Try.underlying82
 have HB := Aside0.mk (Below.refl w.heap.size w)
 have H := h
 clear h
 unfold sum_Add.f at H
 replace H := Option.bind_eq_some_iff.mp H
 obtain ⟨⟨t348, t349, t350, t351, t352⟩, A40, H⟩ := H
 try dsimp only at H
 have A4 := Aside0.mk A40
 clear A40
 rcases t352 with _ | q354
 ·rw [if_pos (show (none : Option Int).isNone = true by rfl)] at H
  try simp only [errW_none, errW_some]
  replace H := Option.bind_eq_some_iff.mp H
  obtain ⟨⟨t355, t356, t357, t358, t359⟩, A50, H⟩ := H
  try dsimp only at H
  have A5 := Aside0.mk A50
  clear A50
  replace H := Option.bind_eq_some_iff.mp H
  obtain ⟨⟨t361, t362, t363, t364, t365, t366, t367⟩, A60, H⟩ := H
  try dsimp only at H
  have A6 := Aside0.mk A60
  clear A60
  rcases t367 with _ | q369
  ·rw [if_pos (show (none : Option Int).isNone = true by rfl)] at H
   try simp only [errW_none, errW_some]
   replace H := Option.bind_eq_some_iff.mp H
   obtain ⟨⟨t370, t371⟩, A70, H⟩ := H
   try dsimp only at H
   have A7 := Aside0.mk A70
   clear A70
   simp only [Option.some.injEq, Prod.mk.injEq] at H
   obtain ⟨rfl, rfl⟩ := H
   go_enter Try.func32, Try.ntmps32
   go_wp2_with (first | ((with_reducible refine gate_callee (f := 72) rfl ?_); refine goA (some 16) Try.func72 (codec_Decode.calls k a0 a1 t348 t349 t350 t351 none _ A4.out) ?_; intro w8 hb; replace HB := hbS hb; clear hb; (try simp only [errW_none, errW_some])) | ((with_reducible refine gate_dst (N := 8) rfl ?_); refine boxA 8 (#[.int .i64 0, .bool false, .int .i64 0, .int .u64 0]) 103 ?_; intro gb353 hg w9 BK353 hb; have GW353 := geT hg; have GE353 := GW353; replace HB := hbS hb; clear hb hg; obtain ⟨z10_0, z10_1, z10_2, z10_3, y10_0, y10_1, y10_2, y10_3⟩ := cz4 BK353) | ((with_reducible refine gate_callee (f := 72) rfl ?_); refine goA (some 25) Try.func72 (codec_Decode.calls k a0 a2 t355 t356 t357 t358 t359 _ A5.out) ?_; intro w11 hb; replace BK353 := bkB (o := .cells #[.int .i64 t348, .bool t349, .int .i64 t350, .int .u64 t351] 103 (0, 0)) BK353 hb; replace HB := hbS hb; clear hb; (try simp only [errW_none, errW_some])) | ((with_reducible refine gate_dst (N := 10) rfl ?_); refine boxA 10 (#[.int .i64 0, .bool false, .int .i64 0, .int .u64 0]) 103 ?_; intro gb360 hg w12 BK360 hb; have GW360 := geT hg; have GE360 := GW360; obtain ⟨NB353_360, NB360_353⟩ := neT BK353 hg; replace BK353 := bkB BK353 hb; replace HB := hbS hb; clear hb hg; have hnb13 := NB360_353.out; have hnc13 := NB353_360.out; obtain ⟨z14_0, z14_1, z14_2, z14_3, y14_0, y14_1, y14_2, y14_3⟩ := cz4 BK360; obtain ⟨z15_0, z15_1, z15_2, z15_3, y15_0, y15_1, y15_2, y15_3⟩ := cz4 BK353) | ((with_reducible refine gate_callee (f := 73) rfl ?_); refine goA (some 31) Try.func73 (sum_Exact.calls k t348 t349 t350 t351 t355 t356 t357 t358 t361 t362 t363 t364 t365 t366 none _ A6.out) ?_; intro w16 hb; replace BK353 := bkB BK353 hb; replace BK360 := bkB (o := .cells #[.int .i64 t355, .bool t356, .int .i64 t357, .int .u64 t358] 103 (0, 0)) BK360 hb; replace HB := hbS hb; clear hb; (try simp only [errW_none, errW_some])) | ((with_reducible refine gate_dst (N := 12) rfl ?_); refine boxA 12 (#[.int .i64 0, .bool false, .int .i64 0, .int .u64 0, .int .u64 0, .bool false]) 86 ?_; intro gb368 hg w17 BK368 hb; have GW368 := geT hg; have GE368 := GW368; obtain ⟨NB353_368, NB368_353⟩ := neT BK353 hg; obtain ⟨NB360_368, NB368_360⟩ := neT BK360 hg; replace BK353 := bkB BK353 hb; replace BK360 := bkB BK360 hb; replace HB := hbS hb; clear hb hg; have hnb18 := NB368_353.out; have hnc18 := NB353_368.out; have hnb19 := NB368_360.out; have hnc19 := NB360_368.out; obtain ⟨z20_0, z20_1, z20_2, z20_3, z20_4, z20_5, y20_0, y20_1, y20_2, y20_3, y20_4, y20_5⟩ := cz6 BK368) | ((with_reducible refine gate_callee (f := 74) rfl ?_); refine goA (some 39) Try.func74 (round_Round.calls k a0 t361 t362 t363 t364 t365 t366 t370 t371 _ A7.out) ?_; intro w21 hb; replace BK353 := bkB BK353 hb; replace BK360 := bkB BK360 hb; replace BK368 := bkB (o := .cells #[.int .i64 t361, .bool t362, .int .i64 t363, .int .u64 t364, .int .u64 t365, .bool t366] 86 (0, 0)) BK368 hb; replace HB := hbS hb; clear hb; (try simp only [errW_none, errW_some])))
   go_ret2
   exact ⟨reT, hbT⟩
  ·rw [if_neg (show ¬ (some q369).isNone = true by simp)] at H
   try simp only [errW_none, errW_some]
   simp only [Option.some.injEq, Prod.mk.injEq] at H
   obtain ⟨rfl, rfl⟩ := H
   go_enter Try.func32, Try.ntmps32
   go_wp2_with (first | ((with_reducible refine gate_callee (f := 72) rfl ?_); refine goA (some 16) Try.func72 (codec_Decode.calls k a0 a1 t348 t349 t350 t351 none _ A4.out) ?_; intro w22 hb; replace HB := hbS hb; clear hb; (try simp only [errW_none, errW_some])) | ((with_reducible refine gate_dst (N := 8) rfl ?_); refine boxA 8 (#[.int .i64 0, .bool false, .int .i64 0, .int .u64 0]) 103 ?_; intro gb353 hg w23 BK353 hb; have GW353 := geT hg; have GE353 := GW353; replace HB := hbS hb; clear hb hg; obtain ⟨z24_0, z24_1, z24_2, z24_3, y24_0, y24_1, y24_2, y24_3⟩ := cz4 BK353) | ((with_reducible refine gate_callee (f := 72) rfl ?_); refine goA (some 25) Try.func72 (codec_Decode.calls k a0 a2 t355 t356 t357 t358 t359 _ A5.out) ?_; intro w25 hb; replace BK353 := bkB (o := .cells #[.int .i64 t348, .bool t349, .int .i64 t350, .int .u64 t351] 103 (0, 0)) BK353 hb; replace HB := hbS hb; clear hb; (try simp only [errW_none, errW_some])) | ((with_reducible refine gate_dst (N := 10) rfl ?_); refine boxA 10 (#[.int .i64 0, .bool false, .int .i64 0, .int .u64 0]) 103 ?_; intro gb360 hg w26 BK360 hb; have GW360 := geT hg; have GE360 := GW360; obtain ⟨NB353_360, NB360_353⟩ := neT BK353 hg; replace BK353 := bkB BK353 hb; replace HB := hbS hb; clear hb hg; have hnb27 := NB360_353.out; have hnc27 := NB353_360.out; obtain ⟨z28_0, z28_1, z28_2, z28_3, y28_0, y28_1, y28_2, y28_3⟩ := cz4 BK360; obtain ⟨z29_0, z29_1, z29_2, z29_3, y29_0, y29_1, y29_2, y29_3⟩ := cz4 BK353) | ((with_reducible refine gate_callee (f := 73) rfl ?_); refine goA (some 31) Try.func73 (sum_Exact.calls k t348 t349 t350 t351 t355 t356 t357 t358 t361 t362 t363 t364 t365 t366 (some q369) _ A6.out) ?_; intro w30 hb; replace BK353 := bkB BK353 hb; replace BK360 := bkB (o := .cells #[.int .i64 t355, .bool t356, .int .i64 t357, .int .u64 t358] 103 (0, 0)) BK360 hb; replace HB := hbS hb; clear hb; (try simp only [errW_none, errW_some])) | ((with_reducible refine gate_dst (N := 12) rfl ?_); refine boxA 12 (#[.int .i64 0, .bool false, .int .i64 0, .int .u64 0, .int .u64 0, .bool false]) 86 ?_; intro gb368 hg w31 BK368 hb; have GW368 := geT hg; have GE368 := GW368; obtain ⟨NB353_368, NB368_353⟩ := neT BK353 hg; obtain ⟨NB360_368, NB368_360⟩ := neT BK360 hg; replace BK353 := bkB BK353 hb; replace BK360 := bkB BK360 hb; replace HB := hbS hb; clear hb hg; have hnb32 := NB368_353.out; have hnc32 := NB353_368.out; have hnb33 := NB368_360.out; have hnc33 := NB360_368.out; obtain ⟨z34_0, z34_1, z34_2, z34_3, z34_4, z34_5, y34_0, y34_1, y34_2, y34_3, y34_4, y34_5⟩ := cz6 BK368))
   go_ret2
   exact ⟨reT, hbT⟩
 ·rw [if_neg (show ¬ (some q354).isNone = true by simp)] at H
  try simp only [errW_none, errW_some]
  simp only [Option.some.injEq, Prod.mk.injEq] at H
  obtain ⟨rfl, rfl⟩ := H
  go_enter Try.func32, Try.ntmps32
  go_wp2_with (first | ((with_reducible refine gate_callee (f := 72) rfl ?_); refine goA (some 16) Try.func72 (codec_Decode.calls k a0 a1 t348 t349 t350 t351 (some q354) _ A4.out) ?_; intro w35 hb; replace HB := hbS hb; clear hb; (try simp only [errW_none, errW_some])) | ((with_reducible refine gate_dst (N := 8) rfl ?_); refine boxA 8 (#[.int .i64 0, .bool false, .int .i64 0, .int .u64 0]) 103 ?_; intro gb353 hg w36 BK353 hb; have GW353 := geT hg; have GE353 := GW353; replace HB := hbS hb; clear hb hg; obtain ⟨z37_0, z37_1, z37_2, z37_3, y37_0, y37_1, y37_2, y37_3⟩ := cz4 BK353))
  go_ret2
  exact ⟨reT, hbT⟩
end Go.Proofs.Ytnlbfomlfhigcaa.Q
namespace Go.Proofs.Ytnlbfomlfhigcaa.Q
open Go.RowKit Go.Proofs.YtnlbfomlfhigcaaW.PrintWords Go.Proofs.YtnlbfomlfhigcaaW.PrintLast Go.Proofs.YtnlbfomlfhigcaaW.PrintMore
attribute [local go_sem] max2_int min2_int max_two min_two max_three min_three max_four min_four
set_option linter.unusedVariables false
set_option linter.unusedSimpArgs false
def sum_Sub.f (k : Nat) (a0 : Int) (a1 : Int) (a2 : Int) : Option (Int × Option Int) := (sum_Add.f k a0 a1 (IntKind.u64.wrap (-a2))).bind fun bt913 => (some (bt913.1, bt913.2))
set_option maxHeartbeats 8000000 in
set_option maxRecDepth 100000 in
theorem sum_Sub.calls (k : Nat) (a0 : Int) (a1 : Int) (a2 : Int) (r1 : Int) (r2 : Option Int) (w : World) (h : sum_Sub.f k a0 a1 a2 = some (r1, r2)) :
  Calls Try.prog 52 #[.int .i64 a0, .int .u64 a1, .int .u64 a2] w fun e w' => e = .returned (.tuple #[.int .u64 r1, errW r2]) ∧ Below w.heap.size w w' := by
 have HB := Aside0.mk (Below.refl w.heap.size w)
 have H := h
 clear h
 unfold sum_Sub.f at H
 replace H := Option.bind_eq_some_iff.mp H
 obtain ⟨⟨t913, t914⟩, A40, H⟩ := H
 try dsimp only at H
 have A4 := Aside0.mk A40
 clear A40
 simp only [Option.some.injEq, Prod.mk.injEq] at H
 obtain ⟨rfl, rfl⟩ := H
 go_enter Try.func52, Try.ntmps52
 go_wp2_with (first | ((with_reducible refine gate_callee (f := 32) rfl ?_); refine goA (some 12) Try.func32 (sum_Add.calls k a0 a1 (IntKind.u64.wrap (-a2)) t913 t914 _ A4.out) ?_; intro w5 hb; replace HB := hbS hb; clear hb; (try simp only [errW_none, errW_some])))
 go_ret2
 exact ⟨reT, hbT⟩
end Go.Proofs.Ytnlbfomlfhigcaa.Q
