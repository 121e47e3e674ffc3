/- Walks and plain laws that the claim stands on: each theorem named calls says that a call of a function returns what its f computes; the others are plain laws of these f, and the words that the walks use. -/
import Derived.Test.YtnlbfomlfhigcaaFuseExactsV2
import Derived.Test.YtnlbfomlfhigcaaFuseExactsV4
import Derived.Test.YtnlbfomlfhigcaaFuseExactsV12
import Derived.Test.YtnlbfomlfhigcaaFuseExactsV7
import Derived.Test.YtnlbfomlfhigcaaFuseExactsV8
import Derived.Test.YtnlbfomlfhigcaaFuseExactsV11
namespace Go.Proofs.Ytnlbfomlfhigcaa.Q
open Go.RowKit Go.Proofs.YtnlbfomlfhigcaaW.PrintWords Go.Proofs.YtnlbfomlfhigcaaW.PrintLast Go.Proofs.YtnlbfomlfhigcaaW.PrintMore
attribute [local go_sem] max2_int min2_int max_two min_two max_three min_three max_four min_four
set_option linter.unusedVariables false
set_option linter.unusedSimpArgs false
def fuse_product.f (k : Nat) (a0 : Int) (a1 : Int) (a2 : Int) : Option (Int × Bool × Int × Int × Int × Bool × Option Int) := (codec_Decode.f k a0 a1).bind fun bt628 => (if bt628.2.2.2.2.isNone = true then ((codec_Decode.f k a0 a2).bind fun bt635 => ((prod_Exact.f k bt628.1 bt628.2.1 bt628.2.2.1 bt628.2.2.2.1 bt635.1 bt635.2.1 bt635.2.2.1 bt635.2.2.2.1).bind fun bt641 => (some (bt641.1, bt641.2.1, bt641.2.2.1, bt641.2.2.2.1, bt641.2.2.2.2.1, bt641.2.2.2.2.2.1, bt641.2.2.2.2.2.2)))) else (some (0, false, 0, 0, 0, false, some (bt628.2.2.2.2.getD 0))))
set_option maxHeartbeats 8000000 in
set_option maxRecDepth 100000 in
theorem fuse_product.calls (k : Nat) (a0 : Int) (a1 : Int) (a2 : Int) (r1 : Int) (r2 : Bool) (r3 : Int) (r4 : Int) (r5 : Int) (r6 : Bool) (r7 : Option Int) (w : World) (h : fuse_product.f k a0 a1 a2 = some (r1, r2, r3, r4, r5, r6, r7)) :
  Calls Try.prog 77 #[.int .i64 a0, .int .u64 a1, .int .u64 a2] w fun e w' => e = .returned (.tuple #[.agg #[.int .i64 r1, .bool r2, .int .i64 r3, .int .u64 r4, .int .u64 r5, .bool r6], errW r7]) ∧ Below w.heap.size w w' := by
 have hu86 := Try.underlying86
 have hu103 := Try.underlying103
 have hu43 := Try.underlying43
 have hu82 := Try.underlying82
 have HB := Aside0.mk (Below.refl w.heap.size w)
 have H := h
 clear h
 unfold fuse_product.f at H
 replace H := Option.bind_eq_some_iff.mp H
 obtain ⟨⟨t628, t629, t630, t631, t632⟩, A40, H⟩ := H
 try dsimp only at H
 have A4 := Aside0.mk A40
 clear A40
 rcases t632 with _ | q634
 ·rw [if_pos (show (none : Option Int).isNone = true by rfl)] at H
  try simp only [errW_none, errW_some]
  replace H := Option.bind_eq_some_iff.mp H
  obtain ⟨⟨t635, t636, t637, t638, t639⟩, A50, H⟩ := H
  try dsimp only at H
  have A5 := Aside0.mk A50
  clear A50
  replace H := Option.bind_eq_some_iff.mp H
  obtain ⟨⟨t641, t642, t643, t644, t645, t646, t647⟩, A60, H⟩ := H
  try dsimp only at H
  have A6 := Aside0.mk A60
  clear A60
  simp only [Option.some.injEq, Prod.mk.injEq] at H
  obtain ⟨rfl, rfl, rfl, rfl, rfl, rfl, rfl⟩ := H
  go_enter Try.func77, Try.ntmps77
  go_wp2_with (first | ((with_reducible refine gate_dst (N := 6) rfl ?_); refine boxA 6 (#[.int .i64 0, .bool false, .int .i64 0, .int .u64 0, .int .u64 0, .bool false]) 86 ?_; intro gb627 hg w7 BK627 hb; have GW627 := geT hg; have GE627 := GW627; replace HB := hbS hb; clear hb hg) | ((with_reducible refine gate_callee (f := 72) rfl ?_); refine goA (some 15) Try.func72 (codec_Decode.calls k a0 a1 t628 t629 t630 t631 none _ A4.out) ?_; intro w8 hb; replace BK627 := bkB BK627 hb; replace HB := hbS hb; clear hb; (try simp only [errW_none, errW_some])) | ((with_reducible refine gate_dst (N := 8) rfl ?_); refine boxA 8 (#[.int .i64 0, .bool false, .int .i64 0, .int .u64 0]) 103 ?_; intro gb633 hg w9 BK633 hb; have GW633 := geT hg; have GE633 := GW633; obtain ⟨NB627_633, NB633_627⟩ := neT BK627 hg; replace BK627 := bkB BK627 hb; replace HB := hbS hb; clear hb hg; have hnb10 := NB633_627.out; have hnc10 := NB627_633.out; obtain ⟨z11_0, z11_1, z11_2, z11_3, y11_0, y11_1, y11_2, y11_3⟩ := cz4 BK633) | ((with_reducible refine gate_callee (f := 72) rfl ?_); refine goA (some 25) Try.func72 (codec_Decode.calls k a0 a2 t635 t636 t637 t638 t639 _ A5.out) ?_; intro w12 hb; replace BK627 := bkB BK627 hb; replace BK633 := bkB (o := .cells #[.int .i64 t628, .bool t629, .int .i64 t630, .int .u64 t631] 103 (0, 0)) BK633 hb; replace HB := hbS hb; clear hb; (try simp only [errW_none, errW_some])) | ((with_reducible refine gate_dst (N := 10) rfl ?_); refine boxA 10 (#[.int .i64 0, .bool false, .int .i64 0, .int .u64 0]) 103 ?_; intro gb640 hg w13 BK640 hb; have GW640 := geT hg; have GE640 := GW640; obtain ⟨NB627_640, NB640_627⟩ := neT BK627 hg; obtain ⟨NB633_640, NB640_633⟩ := neT BK633 hg; replace BK627 := bkB BK627 hb; replace BK633 := bkB BK633 hb; replace HB := hbS hb; clear hb hg; have hnb14 := NB640_627.out; have hnc14 := NB627_640.out; have hnb15 := NB640_633.out; have hnc15 := NB633_640.out; obtain ⟨z16_0, z16_1, z16_2, z16_3, y16_0, y16_1, y16_2, y16_3⟩ := cz4 BK640; obtain ⟨z17_0, z17_1, z17_2, z17_3, y17_0, y17_1, y17_2, y17_3⟩ := cz4 BK633) | ((with_reducible refine gate_callee (f := 94) rfl ?_); refine goA (some 30) Try.func94 (prod_Exact.calls k t628 t629 t630 t631 t635 t636 t637 t638 t641 t642 t643 t644 t645 t646 t647 _ A6.out) ?_; intro w18 hb; replace BK627 := bkB BK627 hb; replace BK633 := bkB BK633 hb; replace BK640 := bkB (o := .cells #[.int .i64 t635, .bool t636, .int .i64 t637, .int .u64 t638] 103 (0, 0)) BK640 hb; replace HB := hbS hb; clear hb; (try simp only [errW_none, errW_some]); obtain ⟨z19_0, z19_1, z19_2, z19_3, z19_4, z19_5, y19_0, y19_1, y19_2, y19_3, y19_4, y19_5⟩ := cz6 BK627))
  refine bodyPost_ret (results_ct rfl _ _ gb627 86 #[.int .i64 t641, .bool t642, .int .i64 t643, .int .u64 t644, .int .u64 t645, .bool t646] (0, 0) _ rfl (bkT BK627) Try.underlying86 rfl (by kernel_rfl)) rfl ?_
  exact ⟨reT, hbT⟩
 ·rw [if_neg (show ¬ (some q634).isNone = true by simp)] at H
  try simp only [errW_none, errW_some]
  simp only [Option.some.injEq, Prod.mk.injEq] at H
  obtain ⟨rfl, rfl, rfl, rfl, rfl, rfl, rfl⟩ := H
  go_enter Try.func77, Try.ntmps77
  go_wp2_with (first | ((with_reducible refine gate_dst (N := 6) rfl ?_); refine boxA 6 (#[.int .i64 0, .bool false, .int .i64 0, .int .u64 0, .int .u64 0, .bool false]) 86 ?_; intro gb627 hg w20 BK627 hb; have GW627 := geT hg; have GE627 := GW627; replace HB := hbS hb; clear hb hg) | ((with_reducible refine gate_callee (f := 72) rfl ?_); refine goA (some 15) Try.func72 (codec_Decode.calls k a0 a1 t628 t629 t630 t631 (some q634) _ A4.out) ?_; intro w21 hb; replace BK627 := bkB BK627 hb; replace HB := hbS hb; clear hb; (try simp only [errW_none, errW_some])) | ((with_reducible refine gate_dst (N := 8) rfl ?_); refine boxA 8 (#[.int .i64 0, .bool false, .int .i64 0, .int .u64 0]) 103 ?_; intro gb633 hg w22 BK633 hb; have GW633 := geT hg; have GE633 := GW633; obtain ⟨NB627_633, NB633_627⟩ := neT BK627 hg; replace BK627 := bkB BK627 hb; replace HB := hbS hb; clear hb hg; have hnb23 := NB633_627.out; have hnc23 := NB627_633.out; obtain ⟨z24_0, z24_1, z24_2, z24_3, y24_0, y24_1, y24_2, y24_3⟩ := cz4 BK633; obtain ⟨z25_0, z25_1, z25_2, z25_3, z25_4, z25_5, y25_0, y25_1, y25_2, y25_3, y25_4, y25_5⟩ := cz6 BK627))
  refine bodyPost_ret (results_ct rfl _ _ gb627 86 #[.int .i64 0, .bool false, .int .i64 0, .int .u64 0, .int .u64 0, .bool false] (0, 0) _ rfl (bkT BK627) Try.underlying86 rfl (by kernel_rfl)) rfl ?_
  exact ⟨reT, hbT⟩
end Go.Proofs.Ytnlbfomlfhigcaa.Q
namespace Go.Proofs.Ytnlbfomlfhigcaa.Q
open Go.RowKit Go.Proofs.YtnlbfomlfhigcaaW.PrintWords Go.Proofs.YtnlbfomlfhigcaaW.PrintLast Go.Proofs.YtnlbfomlfhigcaaW.PrintMore
attribute [local go_sem] max2_int min2_int max_two min_two max_three min_three max_four min_four
set_option linter.unusedVariables false
set_option linter.unusedSimpArgs false
def fuse_Fma.f (k : Nat) (a0 : Int) (a1 : Int) (a2 : Int) (a3 : Int) : Option (Int × Option Int) := (fuse_product.f k a0 a1 a2).bind fun bt648 => (if bt648.2.2.2.2.2.2.isNone = true then ((codec_Decode.f k a0 a3).bind fun bt657 => ((round_Of.f k bt657.1 bt657.2.1 bt657.2.2.1 bt657.2.2.2.1).bind fun bt663 => ((broad_Sum.f k bt648.1 bt648.2.1 bt648.2.2.1 bt648.2.2.2.1 bt648.2.2.2.2.1 bt648.2.2.2.2.2.1 bt663.1 bt663.2.1 bt663.2.2.1 bt663.2.2.2.1 bt663.2.2.2.2.1 bt663.2.2.2.2.2.1).bind fun bt671 => ((round_Round.f k a0 bt671.1 bt671.2.1 bt671.2.2.1 bt671.2.2.2.1 bt671.2.2.2.2.1 bt671.2.2.2.2.2).bind fun bt677 => (some (bt677.1, bt677.2)))))) else (some (0, some (bt648.2.2.2.2.2.2.getD 0))))
set_option maxHeartbeats 8000000 in
set_option maxRecDepth 100000 in
theorem fuse_Fma.calls (k : Nat) (a0 : Int) (a1 : Int) (a2 : Int) (a3 : Int) (r1 : Int) (r2 : Option Int) (w : World) (h : fuse_Fma.f k a0 a1 a2 a3 = some (r1, r2)) :
  Calls Try.prog 34 #[.int .i64 a0, .int .u64 a1, .int .u64 a2, .int .u64 a3] w fun e w' => e = .returned (.tuple #[.int .u64 r1, errW r2]) ∧ Below w.heap.size w w' := by
 have hu86 := Try.underlying86
 have hu103 := Try.underlying103
 have hu43 := Try.underlying43
 have hu82 := Try.underlying82
 have HB := Aside0.mk (Below.refl w.heap.size w)
 have H := h
 clear h
 unfold fuse_Fma.f at H
 replace H := Option.bind_eq_some_iff.mp H
 obtain ⟨⟨t648, t649, t650, t651, t652, t653, t654⟩, A50, H⟩ := H
 try dsimp only at H
 have A5 := Aside0.mk A50
 clear A50
 rcases t654 with _ | q656
 ·rw [if_pos (show (none : Option Int).isNone = true by rfl)] at H
  try simp only [errW_none, errW_some]
  replace H := Option.bind_eq_some_iff.mp H
  obtain ⟨⟨t657, t658, t659, t660, t661⟩, A60, H⟩ := H
  try dsimp only at H
  have A6 := Aside0.mk A60
  clear A60
  replace H := Option.bind_eq_some_iff.mp H
  obtain ⟨⟨t663, t664, t665, t666, t667, t668, t669⟩, A70, H⟩ := H
  try dsimp only at H
  have A7 := Aside0.mk A70
  clear A70
  replace H := Option.bind_eq_some_iff.mp H
  obtain ⟨⟨t671, t672, t673, t674, t675, t676⟩, A80, H⟩ := H
  try dsimp only at H
  have A8 := Aside0.mk A80
  clear A80
  replace H := Option.bind_eq_some_iff.mp H
  obtain ⟨⟨t677, t678⟩, A90, H⟩ := H
  try dsimp only at H
  have A9 := Aside0.mk A90
  clear A90
  simp only [Option.some.injEq, Prod.mk.injEq] at H
  obtain ⟨rfl, rfl⟩ := H
  go_enter Try.func34, Try.ntmps34
  go_wp2_with (first | ((with_reducible refine gate_callee (f := 77) rfl ?_); refine goA (some 20) Try.func77 (fuse_product.calls k a0 a1 a2 t648 t649 t650 t651 t652 t653 none _ A5.out) ?_; intro w10 hb; replace HB := hbS hb; clear hb; (try simp only [errW_none, errW_some])) | ((with_reducible refine gate_dst (N := 10) rfl ?_); refine boxA 10 (#[.int .i64 0, .bool false, .int .i64 0, .int .u64 0, .int .u64 0, .bool false]) 86 ?_; intro gb655 hg w11 BK655 hb; have GW655 := geT hg; have GE655 := GW655; replace HB := hbS hb; clear hb hg; obtain ⟨z12_0, z12_1, z12_2, z12_3, z12_4, z12_5, y12_0, y12_1, y12_2, y12_3, y12_4, y12_5⟩ := cz6 BK655) | ((with_reducible refine gate_callee (f := 72) rfl ?_); refine goA (some 29) Try.func72 (codec_Decode.calls k a0 a3 t657 t658 t659 t660 t661 _ A6.out) ?_; intro w13 hb; replace BK655 := bkB (o := .cells #[.int .i64 t648, .bool t649, .int .i64 t650, .int .u64 t651, .int .u64 t652, .bool t653] 86 (0, 0)) BK655 hb; replace HB := hbS hb; clear hb; (try simp only [errW_none, errW_some])) | ((with_reducible refine gate_dst (N := 12) rfl ?_); refine boxA 12 (#[.int .i64 0, .bool false, .int .i64 0, .int .u64 0]) 103 ?_; intro gb662 hg w14 BK662 hb; have GW662 := geT hg; have GE662 := GW662; obtain ⟨NB655_662, NB662_655⟩ := neT BK655 hg; replace BK655 := bkB BK655 hb; replace HB := hbS hb; clear hb hg; have hnb15 := NB662_655.out; have hnc15 := NB655_662.out; obtain ⟨z16_0, z16_1, z16_2, z16_3, y16_0, y16_1, y16_2, y16_3⟩ := cz4 BK662) | ((with_reducible refine gate_callee (f := 78) rfl ?_); refine goA (some 34) Try.func78 (round_Of.calls k t657 t658 t659 t660 t663 t664 t665 t666 t667 t668 t669 _ A7.out) ?_; intro w17 hb; replace BK655 := bkB BK655 hb; replace BK662 := bkB (o := .cells #[.int .i64 t657, .bool t658, .int .i64 t659, .int .u64 t660] 103 (0, 0)) BK662 hb; replace HB := hbS hb; clear hb; (try simp only [errW_none, errW_some])) | ((with_reducible refine gate_dst (N := 14) rfl ?_); refine boxA 14 (#[.int .i64 0, .bool false, .int .i64 0, .int .u64 0, .int .u64 0, .bool false]) 86 ?_; intro gb670 hg w18 BK670 hb; have GW670 := geT hg; have GE670 := GW670; obtain ⟨NB655_670, NB670_655⟩ := neT BK655 hg; obtain ⟨NB662_670, NB670_662⟩ := neT BK662 hg; replace BK655 := bkB BK655 hb; replace BK662 := bkB BK662 hb; replace HB := hbS hb; clear hb hg; have hnb19 := NB670_655.out; have hnc19 := NB655_670.out; have hnb20 := NB670_662.out; have hnc20 := NB662_670.out; obtain ⟨z21_0, z21_1, z21_2, z21_3, z21_4, z21_5, y21_0, y21_1, y21_2, y21_3, y21_4, y21_5⟩ := cz6 BK670; obtain ⟨z22_0, z22_1, z22_2, z22_3, z22_4, z22_5, y22_0, y22_1, y22_2, y22_3, y22_4, y22_5⟩ := cz6 BK655) | ((with_reducible refine gate_callee (f := 79) rfl ?_); refine goA (some 40) Try.func79 (broad_Sum.calls k t648 t649 t650 t651 t652 t653 t663 t664 t665 t666 t667 t668 t671 t672 t673 t674 t675 t676 _ A8.out) ?_; intro w23 hb; replace BK655 := bkB BK655 hb; replace BK662 := bkB BK662 hb; replace BK670 := bkB (o := .cells #[.int .i64 t663, .bool t664, .int .i64 t665, .int .u64 t666, .int .u64 t667, .bool t668] 86 (0, 0)) BK670 hb; replace HB := hbS hb; clear hb) | ((with_reducible refine gate_callee (f := 74) rfl ?_); refine goA (some 41) Try.func74 (round_Round.calls k a0 t671 t672 t673 t674 t675 t676 t677 t678 _ A9.out) ?_; intro w24 hb; replace BK655 := bkB BK655 hb; replace BK662 := bkB BK662 hb; replace BK670 := bkB BK670 hb; replace HB := hbS hb; clear hb; (try simp only [errW_none, errW_some])))
  go_ret2
  exact ⟨reT, hbT⟩
 ·rw [if_neg (show ¬ (some q656).isNone = true by simp)] at H
  try simp only [errW_none, errW_some]
  simp only [Option.some.injEq, Prod.mk.injEq] at H
  obtain ⟨rfl, rfl⟩ := H
  go_enter Try.func34, Try.ntmps34
  go_wp2_with (first | ((with_reducible refine gate_callee (f := 77) rfl ?_); refine goA (some 20) Try.func77 (fuse_product.calls k a0 a1 a2 t648 t649 t650 t651 t652 t653 (some q656) _ A5.out) ?_; intro w25 hb; replace HB := hbS hb; clear hb; (try simp only [errW_none, errW_some])) | ((with_reducible refine gate_dst (N := 10) rfl ?_); refine boxA 10 (#[.int .i64 0, .bool false, .int .i64 0, .int .u64 0, .int .u64 0, .bool false]) 86 ?_; intro gb655 hg w26 BK655 hb; have GW655 := geT hg; have GE655 := GW655; replace HB := hbS hb; clear hb hg; obtain ⟨z27_0, z27_1, z27_2, z27_3, z27_4, z27_5, y27_0, y27_1, y27_2, y27_3, y27_4, y27_5⟩ := cz6 BK655))
  go_ret2
  exact ⟨reT, hbT⟩
end Go.Proofs.Ytnlbfomlfhigcaa.Q
namespace Go.Proofs.Ytnlbfomlfhigcaa.Q
open Go.RowKit Go.Proofs.YtnlbfomlfhigcaaW.PrintWords Go.Proofs.YtnlbfomlfhigcaaW.PrintLast Go.Proofs.YtnlbfomlfhigcaaW.PrintMore
attribute [local go_sem] max2_int min2_int max_two min_two max_three min_three max_four min_four
set_option linter.unusedVariables false
set_option linter.unusedSimpArgs false
def vernierlaw13_up.f (k : Nat)  : Option (Bool) := (fuse_Fma.f k 8 72 72 192).bind fun bt679 => ((fuse_Fma.f k 8 127 1 192).bind fun bt681 => (if bt679.2.isNone = true then (if bt681.2.isNone = true then (if bt679.1 = 76 then (some (bt681.1 == 0)) else (some false)) else (some false)) else (some false)))
set_option maxHeartbeats 8000000 in
set_option maxRecDepth 100000 in
theorem vernierlaw13_up.calls (k : Nat)  (r : Bool) (w : World) (h : vernierlaw13_up.f k  = some r) :
  Calls Try.prog 54 #[] w fun e w' => e = .returned (.bool r) ∧ Below w.heap.size w w' := by
 have hu43 := Try.underlying43
 have hu82 := Try.underlying82
 have HB := Aside0.mk (Below.refl w.heap.size w)
 have H := h
 clear h
 unfold vernierlaw13_up.f at H
 replace H := Option.bind_eq_some_iff.mp H
 obtain ⟨⟨t679, t680⟩, A10, H⟩ := H
 try dsimp only at H
 have A1 := Aside0.mk A10
 clear A10
 replace H := Option.bind_eq_some_iff.mp H
 obtain ⟨⟨t681, t682⟩, A20, H⟩ := H
 try dsimp only at H
 have A2 := Aside0.mk A20
 clear A20
 rcases t680 with _ | q683
 ·rw [if_pos (show (none : Option Int).isNone = true by rfl)] at H
  try simp only [errW_none, errW_some]
  rcases t682 with _ | q684
  ·rw [if_pos (show (none : Option Int).isNone = true by rfl)] at H
   try simp only [errW_none, errW_some]
   by_cases c3 : t679 = 76
   ·rw [if_pos c3] at H
    obtain ⟨c3b0, c3b1⟩ := eqY c3
    clear c3
    obtain rfl := Option.some.inj H
    go_enter Try.func54, Try.ntmps54
    go_wp2_with (first | ((with_reducible refine gate_callee (f := 34) rfl ?_); refine goA (some 6) Try.func34 (fuse_Fma.calls k 8 72 72 192 t679 none _ A1.out) ?_; intro w4 hb; replace HB := hbS hb; clear hb; (try simp only [errW_none, errW_some])) | ((with_reducible refine gate_callee (f := 34) rfl ?_); refine goA (some 10) Try.func34 (fuse_Fma.calls k 8 127 1 192 t681 none _ A2.out) ?_; intro w5 hb; replace HB := hbS hb; clear hb; (try simp only [errW_none, errW_some])))
    go_ret
    exact ⟨reT, hbT⟩
   ·rw [if_neg c3] at H
    obtain ⟨c3b0, c3b1⟩ := eqN c3
    obtain rfl := Option.some.inj H
    go_enter Try.func54, Try.ntmps54
    go_wp2_with (first | ((with_reducible refine gate_callee (f := 34) rfl ?_); refine goA (some 6) Try.func34 (fuse_Fma.calls k 8 72 72 192 t679 none _ A1.out) ?_; intro w6 hb; replace HB := hbS hb; clear hb; (try simp only [errW_none, errW_some])) | ((with_reducible refine gate_callee (f := 34) rfl ?_); refine goA (some 10) Try.func34 (fuse_Fma.calls k 8 127 1 192 t681 none _ A2.out) ?_; intro w7 hb; replace HB := hbS hb; clear hb; (try simp only [errW_none, errW_some])))
    go_ret
    exact ⟨reT, hbT⟩
  ·rw [if_neg (show ¬ (some q684).isNone = true by simp)] at H
   try simp only [errW_none, errW_some]
   obtain rfl := Option.some.inj H
   go_enter Try.func54, Try.ntmps54
   go_wp2_with (first | ((with_reducible refine gate_callee (f := 34) rfl ?_); refine goA (some 6) Try.func34 (fuse_Fma.calls k 8 72 72 192 t679 none _ A1.out) ?_; intro w8 hb; replace HB := hbS hb; clear hb; (try simp only [errW_none, errW_some])) | ((with_reducible refine gate_callee (f := 34) rfl ?_); refine goA (some 10) Try.func34 (fuse_Fma.calls k 8 127 1 192 t681 (some q684) _ A2.out) ?_; intro w9 hb; replace HB := hbS hb; clear hb; (try simp only [errW_none, errW_some])))
   go_ret
   exact ⟨reT, hbT⟩
 ·rw [if_neg (show ¬ (some q683).isNone = true by simp)] at H
  try simp only [errW_none, errW_some]
  obtain rfl := Option.some.inj H
  go_enter Try.func54, Try.ntmps54
  go_wp2_with (first | ((with_reducible refine gate_callee (f := 34) rfl ?_); refine goA (some 6) Try.func34 (fuse_Fma.calls k 8 72 72 192 t679 (some q683) _ A1.out) ?_; intro w10 hb; replace HB := hbS hb; clear hb; (try simp only [errW_none, errW_some])) | ((with_reducible refine gate_callee (f := 34) rfl ?_); refine goA (some 10) Try.func34 (fuse_Fma.calls k 8 127 1 192 t681 t682 _ A2.out) ?_; intro w11 hb; replace HB := hbS hb; clear hb; (try simp only [errW_none, errW_some])))
  go_ret
  exact ⟨reT, hbT⟩
end Go.Proofs.Ytnlbfomlfhigcaa.Q
namespace Go.Proofs.Ytnlbfomlfhigcaa.Q
open Go.RowKit Go.Proofs.YtnlbfomlfhigcaaW.PrintWords Go.Proofs.YtnlbfomlfhigcaaW.PrintLast Go.Proofs.YtnlbfomlfhigcaaW.PrintMore
attribute [local go_sem] max2_int min2_int max_two min_two max_three min_three max_four min_four
set_option linter.unusedVariables false
set_option linter.unusedSimpArgs false
def fuse_Exact.l0 : Nat → List (S86) → Int → Int → Int → Bool → Int → Int → Int → Bool → Int → Bool → Int → Int → Int → Bool → Option (Int × Bool × Int × Int × Int × Bool × Option Int)
 | 0, _, _, _, _, _, _, _, _, _, _, _, _, _, _, _ => none
 | k + 1, x12, x13, x14, x686000, x686001, x686002, x686003, x686004, x686005, x687000, x687001, x687002, x687003, x687004, x687005 => if x14 < x13 then (if 0 ≤ x14 then (if x14 < (x12.length : Int) then ((round_Round.f k 8 ((rd_T86 x12 x14).f0) ((rd_T86 x12 x14).f1) ((rd_T86 x12 x14).f2) ((rd_T86 x12 x14).f3) ((rd_T86 x12 x14).f4) ((rd_T86 x12 x14).f5)).bind fun bt693 => (if bt693.2.isNone = true then (if (rd_T86 x12 x14).f5 = true then (some (0, false, 0, 0, 0, false, some 1)) else (fuse_Exact.l0 k x12 x13 (wrap64 (x14 + 1)) x686000 x686001 x686002 x686003 x686004 x686005 x687000 x687001 x687002 x687003 x687004 x687005)) else (some (0, false, 0, 0, 0, false, some (bt693.2.getD 0))))) else (none)) else (none)) else ((broad_Sum.f k x686000 x686001 x686002 x686003 x686004 x686005 x687000 x687001 x687002 x687003 x687004 x687005).bind fun bt696 => (some (bt696.1, bt696.2.1, bt696.2.2.1, bt696.2.2.2.1, bt696.2.2.2.2.1, bt696.2.2.2.2.2, none)))
def fuse_Exact.f (k : Nat) (a0_0 : Int) (a0_1 : Bool) (a0_2 : Int) (a0_3 : Int) (a0_4 : Int) (a0_5 : Bool) (a1_0 : Int) (a1_1 : Bool) (a1_2 : Int) (a1_3 : Int) (a1_4 : Int) (a1_5 : Bool) : Option (Int × Bool × Int × Int × Int × Bool × Option Int) := (some (([(⟨a0_0, a0_1, a0_2, a0_3, a0_4, a0_5⟩ : S86), (⟨a1_0, a1_1, a1_2, a1_3, a1_4, a1_5⟩ : S86)] : List (S86)) : List (S86))).bind fun y688 => (fuse_Exact.l0 k y688 (y688.length : Int) 0 a0_0 a0_1 a0_2 a0_3 a0_4 a0_5 a1_0 a1_1 a1_2 a1_3 a1_4 a1_5)
set_option maxHeartbeats 8000000 in
set_option maxRecDepth 100000 in
theorem fuse_Exact.calls (k : Nat) (a0_0 : Int) (a0_1 : Bool) (a0_2 : Int) (a0_3 : Int) (a0_4 : Int) (a0_5 : Bool) (a1_0 : Int) (a1_1 : Bool) (a1_2 : Int) (a1_3 : Int) (a1_4 : Int) (a1_5 : Bool) (r1 : Int) (r2 : Bool) (r3 : Int) (r4 : Int) (r5 : Int) (r6 : Bool) (r7 : Option Int) (w : World) (h : fuse_Exact.f k a0_0 a0_1 a0_2 a0_3 a0_4 a0_5 a1_0 a1_1 a1_2 a1_3 a1_4 a1_5 = some (r1, r2, r3, r4, r5, r6, r7)) :
  Calls Try.prog 55 #[.agg #[.int .i64 a0_0, .bool a0_1, .int .i64 a0_2, .int .u64 a0_3, .int .u64 a0_4, .bool a0_5], .agg #[.int .i64 a1_0, .bool a1_1, .int .i64 a1_2, .int .u64 a1_3, .int .u64 a1_4, .bool a1_5]] w fun e w' => e = .returned (.tuple #[.agg #[.int .i64 r1, .bool r2, .int .i64 r3, .int .u64 r4, .int .u64 r5, .bool r6], errW r7]) ∧ Below w.heap.size w w' := by
 have hu86 := Try.underlying86
 have hu43 := Try.underlying43
 have hu82 := Try.underlying82
 have HB := Aside0.mk (Below.refl w.heap.size w)
 have H := h
 clear h
 unfold fuse_Exact.f at H
 obtain ⟨y688, hy688⟩ : ∃ y_ : List (S86), y_ = (([(⟨a0_0, a0_1, a0_2, a0_3, a0_4, a0_5⟩ : S86), (⟨a1_0, a1_1, a1_2, a1_3, a1_4, a1_5⟩ : S86)] : List (S86))) := ⟨_, rfl⟩
 replace H : (fuse_Exact.l0 k y688 (y688.length : Int) 0 a0_0 a0_1 a0_2 a0_3 a0_4 a0_5 a1_0 a1_1 a1_2 a1_3 a1_4 a1_5) = some (r1, r2, r3, r4, r5, r6, r7) := by first | (rw [hy688]; with_reducible exact H) | (have H2_ := (Option.bind_some _ _).symm.trans H; rw [hy688]; with_reducible exact H2_) | (have H2_ := (Option.bind_some _ _).symm.trans H; with_reducible exact H2_) | with_reducible exact H | (rw [hy688]; exact H) | exact H
 have Ny688 := Aside0.mk hy688
 clear hy688
 have H' := Aside0.mk H
 clear H
 go_enter Try.func55, Try.ntmps55
 go_wp2_with (first | ((with_reducible refine gate_dst (N := 2) rfl ?_); refine boxA 2 (#[.int .i64 a0_0, .bool a0_1, .int .i64 a0_2, .int .u64 a0_3, .int .u64 a0_4, .bool a0_5]) 86 ?_; intro gb685 hg w3 BK685 hb; have GW685 := geT hg; have GE685 := GW685; replace HB := hbS hb; clear hb hg) | ((with_reducible refine gate_dst (N := 3) rfl ?_); refine boxA 3 (#[.int .i64 a1_0, .bool a1_1, .int .i64 a1_2, .int .u64 a1_3, .int .u64 a1_4, .bool a1_5]) 86 ?_; intro gb686 hg w4 BK686 hb; have GW686 := geT hg; have GE686 := GW686; obtain ⟨NB685_686, NB686_685⟩ := neT BK685 hg; replace BK685 := bkB BK685 hb; replace HB := hbS hb; clear hb hg) | ((with_reducible refine gate_dst (N := 4) rfl ?_); refine boxA 4 (#[.int .i64 0, .bool false, .int .i64 0, .int .u64 0, .int .u64 0, .bool false]) 86 ?_; intro gb687 hg w5 BK687 hb; have GW687 := geT hg; have GE687 := GW687; obtain ⟨NB685_687, NB687_685⟩ := neT BK685 hg; obtain ⟨NB686_687, NB687_686⟩ := neT BK686 hg; replace BK685 := bkB BK685 hb; replace BK686 := bkB BK686 hb; replace HB := hbS hb; clear hb hg; have hnb6 := NB685_686.out; have hnc6 := NB686_685.out; have hnb7 := NB685_687.out; have hnc7 := NB687_685.out; obtain ⟨z8_0, z8_1, z8_2, z8_3, z8_4, z8_5, y8_0, y8_1, y8_2, y8_3, y8_4, y8_5⟩ := cz6 BK685; have hnb9 := NB686_687.out; have hnc9 := NB687_686.out; obtain ⟨z10_0, z10_1, z10_2, z10_3, z10_4, z10_5, y10_0, y10_1, y10_2, y10_3, y10_4, y10_5⟩ := cz6 BK686) | ((with_reducible refine gate_dst (N := 12) rfl ?_); refine Kd.R_lit k86 _ 86 ?hg (N := 12) ?hd (xs := ([(⟨a0_0, a0_1, a0_2, a0_3, a0_4, a0_5⟩ : S86), (⟨a1_0, a1_1, a1_2, a1_3, a1_4, a1_5⟩ : S86)] : List (S86))) (inner := [.int .i64 a0_0, .bool a0_1, .int .i64 a0_2, .int .u64 a0_3, .int .u64 a0_4, .bool a0_5, .int .i64 a1_0, .bool a1_1, .int .i64 a1_2, .int .u64 a1_3, .int .u64 a1_4, .bool a1_5]) (ok := fun _ => True) (okp := fun _ => True) ?hr ?hp (fun _ hk => hk) trivial (Below.refl _ _) (Nat.le_refl _) (by simp) ?_; (case hd => rfl); (case hg => rfl); (case hr => first | (go_simp; done) | (go_simp; rfl)); (case hp => exact (Reps.c6 (show Kd.M k86 _ _ _ (⟨a0_0, a0_1, a0_2, a0_3, a0_4, a0_5⟩ : S86) [.int .i64 a0_0, .bool a0_1, .int .i64 a0_2, .int .u64 a0_3, .int .u64 a0_4, .bool a0_5] from (k86_mkM _ _ _ (⟨a0_0, a0_1, a0_2, a0_3, a0_4, a0_5⟩ : S86) )) (Reps.c6 (show Kd.M k86 _ _ _ (⟨a1_0, a1_1, a1_2, a1_3, a1_4, a1_5⟩ : S86) [.int .i64 a1_0, .bool a1_1, .int .i64 a1_2, .int .u64 a1_3, .int .u64 a1_4, .bool a1_5] from (k86_mkM _ _ _ (⟨a1_0, a1_1, a1_2, a1_3, a1_4, a1_5⟩ : S86) )) (Reps.none _ _)))); intro v689 w11 ho12 hb hg_ hnew_; clear hg_ hnew_; (first | rw [← Ny688.out] at ho12 | (simp only [Int.reduceToNat] at ho12; rw [← Ny688.out] at ho12)); have HO690 := Aside0.mk (Kd.R_lower (Kd.R_newB (Kd.R_newB (Kd.R_newB ho12 (g := gb685) (o := .cells #[.int .i64 a0_0, .bool a0_1, .int .i64 a0_2, .int .u64 a0_3, .int .u64 a0_4, .bool a0_5] 86 (0, 0)) (bkT BK685)) (g := gb686) (o := .cells #[.int .i64 a1_0, .bool a1_1, .int .i64 a1_2, .int .u64 a1_3, .int .u64 a1_4, .bool a1_5] 86 (0, 0)) (bkT BK686)) (g := gb687) (o := .cells #[.int .i64 0, .bool false, .int .i64 0, .int .u64 0, .int .u64 0, .bool false] 86 (0, 0)) (bkT BK687)) (below_size hbT)); replace BK685 := bkB BK685 hb; replace BK686 := bkB BK686 hb; replace BK687 := bkB BK687 hb; replace HB := hbS hb; clear hb ho12; obtain ⟨Ao13, co13, eo13⟩ := Kd.R_slice HO690.out; subst eo13))
 go_loopg [14] k (fun kq v14 w' => ∃ (x14_1 : Int) (x688000_1 : Int) (x688001_1 : Bool) (x688002_1 : Int) (x688003_1 : Int) (x688004_1 : Int) (x688005_1 : Bool), v14 = .int .i64 x14_1 ∧ Aside0 (fuse_Exact.l0 kq y688 (y688.length : Int) x14_1 a0_0 a0_1 a0_2 a0_3 a0_4 a0_5 a1_0 a1_1 a1_2 a1_3 a1_4 a1_5 = some (r1, r2, r3, r4, r5, r6, r7)) ∧ Aside0 (kq ≤ k) ∧ Aside0 (Kd.R k86 86 w' w.heap.size (fun k_ => k_ ≠ gb685 ∧ k_ ≠ gb686 ∧ k_ ≠ gb687) (.slice Ao13 y688.length co13) y688) ∧ Aside0 (w'.heap[gb685]? = some (.cells #[.int .i64 a0_0, .bool a0_1, .int .i64 a0_2, .int .u64 a0_3, .int .u64 a0_4, .bool a0_5] 86 (0, 0))) ∧ Aside0 (w'.heap[gb686]? = some (.cells #[.int .i64 a1_0, .bool a1_1, .int .i64 a1_2, .int .u64 a1_3, .int .u64 a1_4, .bool a1_5] 86 (0, 0))) ∧ Aside0 (w'.heap[gb687]? = some (.cells #[.int .i64 x688000_1, .bool x688001_1, .int .i64 x688002_1, .int .u64 x688003_1, .int .u64 x688004_1, .bool x688005_1] 86 (0, 0))) ∧ Aside0 (Below w.heap.size w w'))
 case atStart => exact ⟨(0), (0), (false), (0), (0), (0), (false), okT, H', ⟨Nat.le_refl _⟩, ⟨by (with_reducible repeat (first | apply Kd.R_alloc | apply Kd.R_drewN | apply Kd.R_drew)); exact Kd.R_mono HO690.out (fun _ hk => ⟨hk.1.1.2, ⟨hk.1.2, hk.2⟩⟩)⟩, ⟨bkT BK685⟩, ⟨bkT BK686⟩, ⟨bkT BK687⟩, ⟨hbT⟩⟩
 case round =>
  clear H'
  try clear z10_0 z10_1 z10_2 z10_3 z10_4 z10_5 y10_0 y10_1 y10_2 y10_3 y10_4 y10_5
  try clear z8_0 z8_1 z8_2 z8_3 z8_4 z8_5 y8_0 y8_1 y8_2 y8_3 y8_4 y8_5
  obtain ⟨x14_1, x688000_1, x688001_1, x688002_1, x688003_1, x688004_1, x688005_1, rfl, HA, HK1, HO_12, BK685, BK686, BK687, HB⟩ := hrel
  cases gk with
  | zero => exact absurd HA.out (by simp [fuse_Exact.l0])
  | succ k1 =>
   have H := HA.out
   clear HA
   simp only [fuse_Exact.l0] at H
   by_cases c14 : x14_1 < (y688.length : Int)
   ·rw [if_pos c14] at H
    have c14b0 : decide (x14_1 < (y688.length : Int)) = true := decide_eq_true c14
    clear c14
    by_cases c15 : 0 ≤ x14_1
    ·rw [if_pos c15] at H
     have c15b0 : decide (0 ≤ x14_1) = true := decide_eq_true c15
     clear c15
     by_cases c16 : x14_1 < (y688.length : Int)
     ·rw [if_pos c16] at H
      have c16b0 : decide (x14_1 < (y688.length : Int)) = true := decide_eq_true c16
      clear c16
      replace H := Option.bind_eq_some_iff.mp H
      obtain ⟨⟨t693, t694⟩, A170, H⟩ := H
      try dsimp only at H
      have A17 := Aside0.mk A170
      clear A170
      rcases t694 with _ | q695
      ·rw [if_pos (show (none : Option Int).isNone = true by rfl)] at H
       try simp only [errW_none, errW_some]
       obtain ⟨bq18, hbq18⟩ : ∃ b_ : Bool, b_ = ((rd_T86 y688 x14_1).f5) := ⟨_, rfl⟩
       replace H : (if bq18 = true then (some (0, false, 0, 0, 0, false, some 1)) else (fuse_Exact.l0 k1 y688 (y688.length : Int) (wrap64 (x14_1 + 1)) a0_0 a0_1 a0_2 a0_3 a0_4 a0_5 a1_0 a1_1 a1_2 a1_3 a1_4 a1_5)) = some (r1, r2, r3, r4, r5, r6, r7) := by rw [← hbq18] at H; exact H
       have Nbq18 := Aside0.mk hbq18
       clear hbq18
       by_cases c19 : bq18 = true
       ·subst c19
        rw [if_pos rfl] at H
        simp only [Option.some.injEq, Prod.mk.injEq] at H
        obtain ⟨rfl, rfl, rfl, rfl, rfl, rfl, rfl⟩ := H
        have p691 : 0 ≤ (x14_1 : Int) := of_decide_eq_true (by first | (with_reducible assumption) | assumption)
        have q691 : x14_1 < (y688.length : Int) := of_decide_eq_true (by first | (with_reducible assumption) | assumption)
        obtain ⟨ad691, e691, hx691_0, hx691_1, hx691_2, hx691_3, hx691_4, hx691_5⟩ := at_T86 (Kd.R_reads' HO_12.out).2.2 x14_1 p691 q691
        (try rw [← Nbq18.out] at hx691_1)
        (try rw [← Nbq18.out] at hx691_5)
        have A17q := A17.out
        rw [← Nbq18.out] at A17q
        replace A17 := Aside0.mk A17q
        clear A17q
        cases e691
        replace p691 := eq_true p691
        replace q691 := eq_true q691
        go_wp2_with (first | ((with_reducible refine gate_dst (N := 7) rfl ?_); refine box_event ?hg (N := 7) ?hd (cs := #[.int .i64 0, .bool false, .int .i64 0, .int .u64 0, .int .u64 0, .bool false]) (t := 86) ?hr ?_; (case hd => rfl); (case hg => rfl); (case hr => first | (go_simp; done) | (go_simp; rfl)); intro gb692 hg w20 hbox hb; have n0_ := Aside0.mk (Kd.R_below (Kd.R_elderB (by (with_reducible repeat (first | apply Kd.R_alloc | apply Kd.R_drewN | apply Kd.R_drew)); exact HO_12.out) gb692 (Nat.le_of_eq hg.symm)) hb); have n1_ := bkB BK685 hb; have n2_ := bkB BK686 hb; have n3_ := bkB BK687 hb; have n4_ := hbS hb; have n5_ := Aside0.mk (hbox); have n6_ := geT hg; have n7_ := geT hg; have n8_ := nlT BK685 hg; have n9_ := ngT BK685 hg; have n10_ := nlT BK686 hg; have n11_ := ngT BK686 hg; have n12_ := nlT BK687 hg; have n13_ := ngT BK687 hg; clear HO_12; clear BK685; clear BK686; clear BK687; clear HB; have HO_12 := n0_; have BK685 := n1_; have BK686 := n2_; have BK687 := n3_; have HB := n4_; have BK692 := n5_; have GW692 := n6_; have GE692 := n7_; have NB685_692 := n8_; have NB692_685 := n9_; have NB686_692 := n10_; have NB692_686 := n11_; have NB687_692 := n12_; have NB692_687 := n13_; clear n0_ n1_ n2_ n3_ n4_ n5_ n6_ n7_ n8_ n9_ n10_ n11_ n12_ n13_; clear hb hbox hg; have hnb21 := NB692_685.out; have hnc21 := NB685_692.out; have hnb22 := NB692_686.out; have hnc22 := NB686_692.out; have hnb23 := NB692_687.out; have hnc23 := NB687_692.out; obtain ⟨z24_0, z24_1, z24_2, z24_3, z24_4, z24_5, y24_0, y24_1, y24_2, y24_3, y24_4, y24_5⟩ := cz6 BK692) | ((with_reducible refine gate_callee (f := 74) rfl ?_); refine goA (some 20) Try.func74 (round_Round.calls k1 8 ((rd_T86 y688 x14_1).f0) ((rd_T86 y688 x14_1).f1) ((rd_T86 y688 x14_1).f2) ((rd_T86 y688 x14_1).f3) ((rd_T86 y688 x14_1).f4) true t693 none _ A17.out) ?_; intro w25 hb; have n0_ := Aside0.mk (Kd.R_below (by (with_reducible repeat (first | apply Kd.R_alloc | apply Kd.R_drewN | apply Kd.R_drew)); exact (Kd.R_mono (Kd.R_far (p := ⟨gb692, 5, none⟩) (Kd.R_far (p := ⟨gb692, 4, none⟩) (Kd.R_far (p := ⟨gb692, 3, none⟩) (Kd.R_far (p := ⟨gb692, 2, none⟩) (Kd.R_far (p := ⟨gb692, 1, none⟩) (Kd.R_far (p := ⟨gb692, 0, none⟩) (Kd.R_mono HO_12.out (fun k_ hk => (⟨hk, hk.2⟩ : _ ∧ k_ ≠ gb692))) (fun _ hk => hk.2) (.int .i64 ((rd_T86 y688 x14_1).f0))) (fun _ hk => hk.2) (.bool ((rd_T86 y688 x14_1).f1))) (fun _ hk => hk.2) (.int .i64 ((rd_T86 y688 x14_1).f2))) (fun _ hk => hk.2) (.int .u64 ((rd_T86 y688 x14_1).f3))) (fun _ hk => hk.2) (.int .u64 ((rd_T86 y688 x14_1).f4))) (fun _ hk => hk.2) (.bool true)) (fun _ h_ => h_.1))) hb); have n1_ := bkB BK685 hb; have n2_ := bkB BK686 hb; have n3_ := bkB BK687 hb; have n4_ := bkB (o := .cells #[.int .i64 ((rd_T86 y688 x14_1).f0), .bool ((rd_T86 y688 x14_1).f1), .int .i64 ((rd_T86 y688 x14_1).f2), .int .u64 ((rd_T86 y688 x14_1).f3), .int .u64 ((rd_T86 y688 x14_1).f4), .bool true] 86 (0, 0)) BK692 hb; have n5_ := hbS hb; clear HO_12; clear BK685; clear BK686; clear BK687; clear BK692; clear HB; have HO_12 := n0_; have BK685 := n1_; have BK686 := n2_; have BK687 := n3_; have BK692 := n4_; have HB := n5_; clear n0_ n1_ n2_ n3_ n4_ n5_; clear hb; (try simp only [errW_none, errW_some]); obtain ⟨z26_0, z26_1, z26_2, z26_3, z26_4, z26_5, y26_0, y26_1, y26_2, y26_3, y26_4, y26_5⟩ := cz6 BK692; have hnb27 := NB687_685.out; have hnc27 := NB685_687.out; have hnb28 := NB687_686.out; have hnc28 := NB686_687.out; obtain ⟨z29_0, z29_1, z29_2, z29_3, z29_4, z29_5, y29_0, y29_1, y29_2, y29_3, y29_4, y29_5⟩ := cz6 BK687))
        refine bodyPost_ret (results_ct rfl _ _ gb687 86 #[.int .i64 0, .bool false, .int .i64 0, .int .u64 0, .int .u64 0, .bool false] (0, 0) _ rfl (bkT BK687) Try.underlying86 rfl (by kernel_rfl)) rfl ?_
        exact ⟨reT, hbT⟩
       ·replace c19 := Bool.eq_false_iff.mpr c19
        subst c19
        rw [if_neg (show ¬ (false = true) by decide)] at H
        have H' := Aside0.mk H
        clear H
        have p691 : 0 ≤ (x14_1 : Int) := of_decide_eq_true (by first | (with_reducible assumption) | assumption)
        have q691 : x14_1 < (y688.length : Int) := of_decide_eq_true (by first | (with_reducible assumption) | assumption)
        obtain ⟨ad691, e691, hx691_0, hx691_1, hx691_2, hx691_3, hx691_4, hx691_5⟩ := at_T86 (Kd.R_reads' HO_12.out).2.2 x14_1 p691 q691
        (try rw [← Nbq18.out] at hx691_1)
        (try rw [← Nbq18.out] at hx691_5)
        have A17q := A17.out
        rw [← Nbq18.out] at A17q
        replace A17 := Aside0.mk A17q
        clear A17q
        cases e691
        replace p691 := eq_true p691
        replace q691 := eq_true q691
        go_wp2_with (first | ((with_reducible refine gate_dst (N := 7) rfl ?_); refine box_event ?hg (N := 7) ?hd (cs := #[.int .i64 0, .bool false, .int .i64 0, .int .u64 0, .int .u64 0, .bool false]) (t := 86) ?hr ?_; (case hd => rfl); (case hg => rfl); (case hr => first | (go_simp; done) | (go_simp; rfl)); intro gb692 hg w30 hbox hb; have n0_ := Aside0.mk (Kd.R_below (Kd.R_elderB (by (with_reducible repeat (first | apply Kd.R_alloc | apply Kd.R_drewN | apply Kd.R_drew)); exact HO_12.out) gb692 (Nat.le_of_eq hg.symm)) hb); have n1_ := bkB BK685 hb; have n2_ := bkB BK686 hb; have n3_ := bkB BK687 hb; have n4_ := hbS hb; have n5_ := Aside0.mk (hbox); have n6_ := geT hg; have n7_ := geT hg; have n8_ := nlT BK685 hg; have n9_ := ngT BK685 hg; have n10_ := nlT BK686 hg; have n11_ := ngT BK686 hg; have n12_ := nlT BK687 hg; have n13_ := ngT BK687 hg; clear HO_12; clear BK685; clear BK686; clear BK687; clear HB; have HO_12 := n0_; have BK685 := n1_; have BK686 := n2_; have BK687 := n3_; have HB := n4_; have BK692 := n5_; have GW692 := n6_; have GE692 := n7_; have NB685_692 := n8_; have NB692_685 := n9_; have NB686_692 := n10_; have NB692_686 := n11_; have NB687_692 := n12_; have NB692_687 := n13_; clear n0_ n1_ n2_ n3_ n4_ n5_ n6_ n7_ n8_ n9_ n10_ n11_ n12_ n13_; clear hb hbox hg; have hnb31 := NB692_685.out; have hnc31 := NB685_692.out; have hnb32 := NB692_686.out; have hnc32 := NB686_692.out; have hnb33 := NB692_687.out; have hnc33 := NB687_692.out; obtain ⟨z34_0, z34_1, z34_2, z34_3, z34_4, z34_5, y34_0, y34_1, y34_2, y34_3, y34_4, y34_5⟩ := cz6 BK692) | ((with_reducible refine gate_callee (f := 74) rfl ?_); refine goA (some 20) Try.func74 (round_Round.calls k1 8 ((rd_T86 y688 x14_1).f0) ((rd_T86 y688 x14_1).f1) ((rd_T86 y688 x14_1).f2) ((rd_T86 y688 x14_1).f3) ((rd_T86 y688 x14_1).f4) false t693 none _ A17.out) ?_; intro w35 hb; have n0_ := Aside0.mk (Kd.R_below (by (with_reducible repeat (first | apply Kd.R_alloc | apply Kd.R_drewN | apply Kd.R_drew)); exact (Kd.R_mono (Kd.R_far (p := ⟨gb692, 5, none⟩) (Kd.R_far (p := ⟨gb692, 4, none⟩) (Kd.R_far (p := ⟨gb692, 3, none⟩) (Kd.R_far (p := ⟨gb692, 2, none⟩) (Kd.R_far (p := ⟨gb692, 1, none⟩) (Kd.R_far (p := ⟨gb692, 0, none⟩) (Kd.R_mono HO_12.out (fun k_ hk => (⟨hk, hk.2⟩ : _ ∧ k_ ≠ gb692))) (fun _ hk => hk.2) (.int .i64 ((rd_T86 y688 x14_1).f0))) (fun _ hk => hk.2) (.bool ((rd_T86 y688 x14_1).f1))) (fun _ hk => hk.2) (.int .i64 ((rd_T86 y688 x14_1).f2))) (fun _ hk => hk.2) (.int .u64 ((rd_T86 y688 x14_1).f3))) (fun _ hk => hk.2) (.int .u64 ((rd_T86 y688 x14_1).f4))) (fun _ hk => hk.2) (.bool false)) (fun _ h_ => h_.1))) hb); have n1_ := bkB BK685 hb; have n2_ := bkB BK686 hb; have n3_ := bkB BK687 hb; have n4_ := bkB (o := .cells #[.int .i64 ((rd_T86 y688 x14_1).f0), .bool ((rd_T86 y688 x14_1).f1), .int .i64 ((rd_T86 y688 x14_1).f2), .int .u64 ((rd_T86 y688 x14_1).f3), .int .u64 ((rd_T86 y688 x14_1).f4), .bool false] 86 (0, 0)) BK692 hb; have n5_ := hbS hb; clear HO_12; clear BK685; clear BK686; clear BK687; clear BK692; clear HB; have HO_12 := n0_; have BK685 := n1_; have BK686 := n2_; have BK687 := n3_; have BK692 := n4_; have HB := n5_; clear n0_ n1_ n2_ n3_ n4_ n5_; clear hb; (try simp only [errW_none, errW_some]); obtain ⟨z36_0, z36_1, z36_2, z36_3, z36_4, z36_5, y36_0, y36_1, y36_2, y36_3, y36_4, y36_5⟩ := cz6 BK692))
        go_roundg k1
        case measure => have := HK1.out; omega
        case rel => exact ⟨(wrap64 (x14_1 + 1)), (x688000_1), (x688001_1), (x688002_1), (x688003_1), (x688004_1), (x688005_1), okT, H', ⟨by have := HK1.out; omega⟩, ⟨by (with_reducible repeat (first | apply Kd.R_alloc | apply Kd.R_drewN | apply Kd.R_drew)); exact Kd.R_mono HO_12.out (fun _ hk => ⟨hk.1.1, ⟨hk.1.2.1, hk.1.2.2⟩⟩)⟩, ⟨bkT BK685⟩, ⟨bkT BK686⟩, ⟨bkT BK687⟩, ⟨hbT⟩⟩
      ·rw [if_neg (show ¬ (some q695).isNone = true by simp)] at H
       try simp only [errW_none, errW_some]
       simp only [Option.some.injEq, Prod.mk.injEq] at H
       obtain ⟨rfl, rfl, rfl, rfl, rfl, rfl, rfl⟩ := H
       have p691 : 0 ≤ (x14_1 : Int) := of_decide_eq_true (by first | (with_reducible assumption) | assumption)
       have q691 : x14_1 < (y688.length : Int) := of_decide_eq_true (by first | (with_reducible assumption) | assumption)
       obtain ⟨ad691, e691, hx691_0, hx691_1, hx691_2, hx691_3, hx691_4, hx691_5⟩ := at_T86 (Kd.R_reads' HO_12.out).2.2 x14_1 p691 q691
       cases e691
       replace p691 := eq_true p691
       replace q691 := eq_true q691
       go_wp2_with (first | ((with_reducible refine gate_dst (N := 7) rfl ?_); refine box_event ?hg (N := 7) ?hd (cs := #[.int .i64 0, .bool false, .int .i64 0, .int .u64 0, .int .u64 0, .bool false]) (t := 86) ?hr ?_; (case hd => rfl); (case hg => rfl); (case hr => first | (go_simp; done) | (go_simp; rfl)); intro gb692 hg w37 hbox hb; have n0_ := Aside0.mk (Kd.R_below (Kd.R_elderB (by (with_reducible repeat (first | apply Kd.R_alloc | apply Kd.R_drewN | apply Kd.R_drew)); exact HO_12.out) gb692 (Nat.le_of_eq hg.symm)) hb); have n1_ := bkB BK685 hb; have n2_ := bkB BK686 hb; have n3_ := bkB BK687 hb; have n4_ := hbS hb; have n5_ := Aside0.mk (hbox); have n6_ := geT hg; have n7_ := geT hg; have n8_ := nlT BK685 hg; have n9_ := ngT BK685 hg; have n10_ := nlT BK686 hg; have n11_ := ngT BK686 hg; have n12_ := nlT BK687 hg; have n13_ := ngT BK687 hg; clear HO_12; clear BK685; clear BK686; clear BK687; clear HB; have HO_12 := n0_; have BK685 := n1_; have BK686 := n2_; have BK687 := n3_; have HB := n4_; have BK692 := n5_; have GW692 := n6_; have GE692 := n7_; have NB685_692 := n8_; have NB692_685 := n9_; have NB686_692 := n10_; have NB692_686 := n11_; have NB687_692 := n12_; have NB692_687 := n13_; clear n0_ n1_ n2_ n3_ n4_ n5_ n6_ n7_ n8_ n9_ n10_ n11_ n12_ n13_; clear hb hbox hg; have hnb38 := NB692_685.out; have hnc38 := NB685_692.out; have hnb39 := NB692_686.out; have hnc39 := NB686_692.out; have hnb40 := NB692_687.out; have hnc40 := NB687_692.out; obtain ⟨z41_0, z41_1, z41_2, z41_3, z41_4, z41_5, y41_0, y41_1, y41_2, y41_3, y41_4, y41_5⟩ := cz6 BK692) | ((with_reducible refine gate_callee (f := 74) rfl ?_); refine goA (some 20) Try.func74 (round_Round.calls k1 8 ((rd_T86 y688 x14_1).f0) ((rd_T86 y688 x14_1).f1) ((rd_T86 y688 x14_1).f2) ((rd_T86 y688 x14_1).f3) ((rd_T86 y688 x14_1).f4) ((rd_T86 y688 x14_1).f5) t693 (some q695) _ A17.out) ?_; intro w42 hb; have n0_ := Aside0.mk (Kd.R_below (by (with_reducible repeat (first | apply Kd.R_alloc | apply Kd.R_drewN | apply Kd.R_drew)); exact (Kd.R_mono (Kd.R_far (p := ⟨gb692, 5, none⟩) (Kd.R_far (p := ⟨gb692, 4, none⟩) (Kd.R_far (p := ⟨gb692, 3, none⟩) (Kd.R_far (p := ⟨gb692, 2, none⟩) (Kd.R_far (p := ⟨gb692, 1, none⟩) (Kd.R_far (p := ⟨gb692, 0, none⟩) (Kd.R_mono HO_12.out (fun k_ hk => (⟨hk, hk.2⟩ : _ ∧ k_ ≠ gb692))) (fun _ hk => hk.2) (.int .i64 ((rd_T86 y688 x14_1).f0))) (fun _ hk => hk.2) (.bool ((rd_T86 y688 x14_1).f1))) (fun _ hk => hk.2) (.int .i64 ((rd_T86 y688 x14_1).f2))) (fun _ hk => hk.2) (.int .u64 ((rd_T86 y688 x14_1).f3))) (fun _ hk => hk.2) (.int .u64 ((rd_T86 y688 x14_1).f4))) (fun _ hk => hk.2) (.bool ((rd_T86 y688 x14_1).f5))) (fun _ h_ => h_.1))) hb); have n1_ := bkB BK685 hb; have n2_ := bkB BK686 hb; have n3_ := bkB BK687 hb; have n4_ := bkB (o := .cells #[.int .i64 ((rd_T86 y688 x14_1).f0), .bool ((rd_T86 y688 x14_1).f1), .int .i64 ((rd_T86 y688 x14_1).f2), .int .u64 ((rd_T86 y688 x14_1).f3), .int .u64 ((rd_T86 y688 x14_1).f4), .bool ((rd_T86 y688 x14_1).f5)] 86 (0, 0)) BK692 hb; have n5_ := hbS hb; clear HO_12; clear BK685; clear BK686; clear BK687; clear BK692; clear HB; have HO_12 := n0_; have BK685 := n1_; have BK686 := n2_; have BK687 := n3_; have BK692 := n4_; have HB := n5_; clear n0_ n1_ n2_ n3_ n4_ n5_; clear hb; (try simp only [errW_none, errW_some]); have hnb43 := NB687_685.out; have hnc43 := NB685_687.out; have hnb44 := NB687_686.out; have hnc44 := NB686_687.out; obtain ⟨z45_0, z45_1, z45_2, z45_3, z45_4, z45_5, y45_0, y45_1, y45_2, y45_3, y45_4, y45_5⟩ := cz6 BK687))
       refine bodyPost_ret (results_ct rfl _ _ gb687 86 #[.int .i64 0, .bool false, .int .i64 0, .int .u64 0, .int .u64 0, .bool false] (0, 0) _ rfl (bkT BK687) Try.underlying86 rfl (by kernel_rfl)) rfl ?_
       exact ⟨reT, hbT⟩
     ·rw [if_neg c16] at H
      exact absurd H (by simp)
    ·rw [if_neg c15] at H
     exact absurd H (by simp)
   ·rw [if_neg c14] at H
    have c14b0 : decide (x14_1 < (y688.length : Int)) = false := decide_eq_false c14
    clear c14
    replace H := Option.bind_eq_some_iff.mp H
    obtain ⟨⟨t696, t697, t698, t699, t700, t701⟩, A460, H⟩ := H
    try dsimp only at H
    have A46 := Aside0.mk A460
    clear A460
    simp only [Option.some.injEq, Prod.mk.injEq] at H
    obtain ⟨rfl, rfl, rfl, rfl, rfl, rfl, rfl⟩ := H
    have hnb47 := NB685_686.out
    have hnc47 := NB686_685.out
    have hnb48 := NB685_687.out
    have hnc48 := NB687_685.out
    obtain ⟨z49_0, z49_1, z49_2, z49_3, z49_4, z49_5, y49_0, y49_1, y49_2, y49_3, y49_4, y49_5⟩ := cz6 BK685
    have hnb50 := NB686_687.out
    have hnc50 := NB687_686.out
    obtain ⟨z51_0, z51_1, z51_2, z51_3, z51_4, z51_5, y51_0, y51_1, y51_2, y51_3, y51_4, y51_5⟩ := cz6 BK686
    go_wp2_with (first | ((with_reducible refine gate_callee (f := 79) rfl ?_); refine goA (some 34) Try.func79 (broad_Sum.calls k1 a0_0 a0_1 a0_2 a0_3 a0_4 a0_5 a1_0 a1_1 a1_2 a1_3 a1_4 a1_5 t696 t697 t698 t699 t700 t701 _ A46.out) ?_; intro w52 hb; have n0_ := Aside0.mk (Kd.R_below (by (with_reducible repeat (first | apply Kd.R_alloc | apply Kd.R_drewN | apply Kd.R_drew)); exact HO_12.out) hb); have n1_ := bkB BK685 hb; have n2_ := bkB BK686 hb; have n3_ := bkB BK687 hb; have n4_ := hbS hb; clear HO_12; clear BK685; clear BK686; clear BK687; clear HB; have HO_12 := n0_; have BK685 := n1_; have BK686 := n2_; have BK687 := n3_; have HB := n4_; clear n0_ n1_ n2_ n3_ n4_; clear hb; obtain ⟨z53_0, z53_1, z53_2, z53_3, z53_4, z53_5, y53_0, y53_1, y53_2, y53_3, y53_4, y53_5⟩ := cz6 BK687))
    refine bodyPost_ret (results_ct rfl _ _ gb687 86 #[.int .i64 t696, .bool t697, .int .i64 t698, .int .u64 t699, .int .u64 t700, .bool t701] (0, 0) _ rfl (bkT BK687) Try.underlying86 rfl (by kernel_rfl)) rfl ?_
    exact ⟨reT, hbT⟩
end Go.Proofs.Ytnlbfomlfhigcaa.Q
namespace Go.Proofs.Ytnlbfomlfhigcaa.Q
open Go.RowKit Go.Proofs.YtnlbfomlfhigcaaW.PrintWords Go.Proofs.YtnlbfomlfhigcaaW.PrintLast Go.Proofs.YtnlbfomlfhigcaaW.PrintMore
attribute [local go_sem] max2_int min2_int max_two min_two max_three min_three max_four min_four
set_option linter.unusedVariables false
set_option linter.unusedSimpArgs false
attribute [local go_sem high] eqA86
def vernierref07_Sound.f (a0_0 : Int) (a0_1 : Bool) (a0_2 : Int) (a0_3 : Int) (a0_4 : Int) (a0_5 : Bool) : Option (Bool) := if a0_0 = 0 then (some (!a0_1 && (a0_2 == 0 && (a0_3 == 0 && (a0_4 == 0 && (!a0_5)))))) else (if a0_0 = 2 then (some (!a0_1 && (a0_2 == 0 && (a0_3 == 0 && (a0_4 == 0 && (!a0_5)))))) else (if a0_0 = 1 then (if a0_3 ≥ 9223372036854775808 then (if a0_2 ≥ (-1099511627776) then (some (decide (a0_2 ≤ 1099511627776))) else (some false)) else (some false)) else (some false)))
set_option maxHeartbeats 8000000 in
set_option maxRecDepth 100000 in
theorem vernierref07_Sound.calls (a0_0 : Int) (a0_1 : Bool) (a0_2 : Int) (a0_3 : Int) (a0_4 : Int) (a0_5 : Bool) (r : Bool) (w : World) (h : vernierref07_Sound.f a0_0 a0_1 a0_2 a0_3 a0_4 a0_5 = some r) :
  Calls Try.prog 92 #[.agg #[.int .i64 a0_0, .bool a0_1, .int .i64 a0_2, .int .u64 a0_3, .int .u64 a0_4, .bool a0_5]] w fun e w' => e = .returned (.bool r) ∧ Below w.heap.size w w' := by
 have hu86 := Try.underlying86
 have HB := Aside0.mk (Below.refl w.heap.size w)
 have H := h
 clear h
 unfold vernierref07_Sound.f at H
 by_cases c2 : a0_0 = 0
 ·rw [if_pos c2] at H
  obtain ⟨c2b0, c2b1⟩ := eqY c2
  clear c2
  obtain rfl := Option.some.inj H
  go_enter Try.func92, Try.ntmps92
  go_wp2_with (first | ((with_reducible refine gate_dst (N := 1) rfl ?_); refine boxA 1 (#[.int .i64 a0_0, .bool a0_1, .int .i64 a0_2, .int .u64 a0_3, .int .u64 a0_4, .bool a0_5]) 86 ?_; intro gb432 hg w3 BK432 hb; have GW432 := geT hg; have GE432 := GW432; replace HB := hbS hb; clear hb hg; obtain ⟨z4_0, z4_1, z4_2, z4_3, z4_4, z4_5, y4_0, y4_1, y4_2, y4_3, y4_4, y4_5⟩ := cz6 BK432))
  go_ret
  exact ⟨reT, hbT⟩
 ·rw [if_neg c2] at H
  obtain ⟨c2b0, c2b1⟩ := eqN c2
  by_cases c5 : a0_0 = 2
  ·rw [if_pos c5] at H
   obtain ⟨c5b0, c5b1⟩ := eqY c5
   clear c5
   obtain rfl := Option.some.inj H
   go_enter Try.func92, Try.ntmps92
   go_wp2_with (first | ((with_reducible refine gate_dst (N := 1) rfl ?_); refine boxA 1 (#[.int .i64 a0_0, .bool a0_1, .int .i64 a0_2, .int .u64 a0_3, .int .u64 a0_4, .bool a0_5]) 86 ?_; intro gb432 hg w6 BK432 hb; have GW432 := geT hg; have GE432 := GW432; replace HB := hbS hb; clear hb hg; obtain ⟨z7_0, z7_1, z7_2, z7_3, z7_4, z7_5, y7_0, y7_1, y7_2, y7_3, y7_4, y7_5⟩ := cz6 BK432))
   go_ret
   exact ⟨reT, hbT⟩
  ·rw [if_neg c5] at H
   obtain ⟨c5b0, c5b1⟩ := eqN c5
   by_cases c8 : a0_0 = 1
   ·rw [if_pos c8] at H
    obtain ⟨c8b0, c8b1⟩ := eqY c8
    clear c8
    by_cases c9 : a0_3 ≥ 9223372036854775808
    ·rw [if_pos c9] at H
     have c9b0 : decide (9223372036854775808 ≤ a0_3) = true := decide_eq_true c9
     clear c9
     by_cases c10 : a0_2 ≥ (-1099511627776)
     ·rw [if_pos c10] at H
      have c10b0 : decide ((-1099511627776) ≤ a0_2) = true := decide_eq_true c10
      clear c10
      obtain rfl := Option.some.inj H
      go_enter Try.func92, Try.ntmps92
      go_wp2_with (first | ((with_reducible refine gate_dst (N := 1) rfl ?_); refine boxA 1 (#[.int .i64 a0_0, .bool a0_1, .int .i64 a0_2, .int .u64 a0_3, .int .u64 a0_4, .bool a0_5]) 86 ?_; intro gb432 hg w11 BK432 hb; have GW432 := geT hg; have GE432 := GW432; replace HB := hbS hb; clear hb hg; obtain ⟨z12_0, z12_1, z12_2, z12_3, z12_4, z12_5, y12_0, y12_1, y12_2, y12_3, y12_4, y12_5⟩ := cz6 BK432))
      go_ret
      exact ⟨reT, hbT⟩
     ·rw [if_neg c10] at H
      have c10b0 : decide ((-1099511627776) ≤ a0_2) = false := decide_eq_false c10
      clear c10
      obtain rfl := Option.some.inj H
      go_enter Try.func92, Try.ntmps92
      go_wp2_with (first | ((with_reducible refine gate_dst (N := 1) rfl ?_); refine boxA 1 (#[.int .i64 a0_0, .bool a0_1, .int .i64 a0_2, .int .u64 a0_3, .int .u64 a0_4, .bool a0_5]) 86 ?_; intro gb432 hg w13 BK432 hb; have GW432 := geT hg; have GE432 := GW432; replace HB := hbS hb; clear hb hg; obtain ⟨z14_0, z14_1, z14_2, z14_3, z14_4, z14_5, y14_0, y14_1, y14_2, y14_3, y14_4, y14_5⟩ := cz6 BK432))
      go_ret
      exact ⟨reT, hbT⟩
    ·rw [if_neg c9] at H
     have c9b0 : decide (9223372036854775808 ≤ a0_3) = false := decide_eq_false c9
     clear c9
     obtain rfl := Option.some.inj H
     go_enter Try.func92, Try.ntmps92
     go_wp2_with (first | ((with_reducible refine gate_dst (N := 1) rfl ?_); refine boxA 1 (#[.int .i64 a0_0, .bool a0_1, .int .i64 a0_2, .int .u64 a0_3, .int .u64 a0_4, .bool a0_5]) 86 ?_; intro gb432 hg w15 BK432 hb; have GW432 := geT hg; have GE432 := GW432; replace HB := hbS hb; clear hb hg; obtain ⟨z16_0, z16_1, z16_2, z16_3, z16_4, z16_5, y16_0, y16_1, y16_2, y16_3, y16_4, y16_5⟩ := cz6 BK432))
     go_ret
     exact ⟨reT, hbT⟩
   ·rw [if_neg c8] at H
    obtain ⟨c8b0, c8b1⟩ := eqN c8
    obtain rfl := Option.some.inj H
    go_enter Try.func92, Try.ntmps92
    go_wp2_with (first | ((with_reducible refine gate_dst (N := 1) rfl ?_); refine boxA 1 (#[.int .i64 a0_0, .bool a0_1, .int .i64 a0_2, .int .u64 a0_3, .int .u64 a0_4, .bool a0_5]) 86 ?_; intro gb432 hg w17 BK432 hb; have GW432 := geT hg; have GE432 := GW432; replace HB := hbS hb; clear hb hg; obtain ⟨z18_0, z18_1, z18_2, z18_3, z18_4, z18_5, y18_0, y18_1, y18_2, y18_3, y18_4, y18_5⟩ := cz6 BK432))
    go_ret
    exact ⟨reT, hbT⟩
end Go.Proofs.Ytnlbfomlfhigcaa.Q
namespace Go.Proofs.Ytnlbfomlfhigcaa.Q
open Go.RowKit Go.Proofs.YtnlbfomlfhigcaaW.PrintWords Go.Proofs.YtnlbfomlfhigcaaW.PrintLast Go.Proofs.YtnlbfomlfhigcaaW.PrintMore
attribute [local go_sem] max2_int min2_int max_two min_two max_three min_three max_four min_four
set_option linter.unusedVariables false
set_option linter.unusedSimpArgs false
def vernierref00_digit.f (l0 : List Int) (a1 : Int) : Option (Int) := if a1 < (l0.length : Int) then (if 0 ≤ a1 then (some (rd l0 a1)) else (none)) else (some 0)
set_option maxHeartbeats 8000000 in
set_option maxRecDepth 100000 in
theorem vernierref00_digit.calls (A0 : Option Addr) (c0 : Nat) (l0 : List Int) (a1 : Int) (r : Int) (w : World) (hr0 : Kd.C (Kd.int .i64) w A0 l0.length l0) (hc0 : l0.length ≤ c0) (h : vernierref00_digit.f l0 a1 = some r) :
  Calls Try.prog 165 #[.slice A0 l0.length c0, .int .i64 a1] w fun e w' => e = .returned (.int .i64 r) ∧ Drawn0 w w' := by
 have HR0 := Aside0.mk hr0
 have HC0 := Aside0.mk hc0
 clear hr0 hc0
 have H := h
 clear h
 unfold vernierref00_digit.f at H
 by_cases c3 : a1 < (l0.length : Int)
 ·rw [if_pos c3] at H
  have c3b0 : decide (a1 < (l0.length : Int)) = true := decide_eq_true c3
  clear c3
  by_cases c4 : 0 ≤ a1
  ·rw [if_pos c4] at H
   have c4b0 : decide (0 ≤ a1) = true := decide_eq_true c4
   clear c4
   obtain rfl := Option.some.inj H
   have p702 : 0 ≤ (a1 : Int) := of_decide_eq_true (by first | (with_reducible assumption) | assumption)
   have q702 : a1 < (l0.length : Int) := of_decide_eq_true (by first | (with_reducible assumption) | assumption)
   obtain ⟨ad702, e702, hx702_0⟩ := Kd.at_int HR0.out a1 p702 q702
   cases e702
   replace p702 := eq_true p702
   replace q702 := eq_true q702
   go_enter Try.func165, Try.ntmps165
   go_wp2
   go_ret
   exact ⟨okT, by repeat (first | exact Drawn0.refl _ | apply Drawn0.step)⟩
  ·rw [if_neg c4] at H
   exact absurd H (by simp)
 ·rw [if_neg c3] at H
  have c3b0 : decide (a1 < (l0.length : Int)) = false := decide_eq_false c3
  clear c3
  obtain rfl := Option.some.inj H
  go_enter Try.func165, Try.ntmps165
  go_wp2
  go_ret
  exact ⟨okT, by repeat (first | exact Drawn0.refl _ | apply Drawn0.step)⟩
end Go.Proofs.Ytnlbfomlfhigcaa.Q
