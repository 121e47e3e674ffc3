/- Walks and plain laws that the claim stands on: each theorem named calls says that a call of a function returns what its f computes; the others are plain laws of these f, and the words that the walks use. -/
import Derived.Test.YtnlbfomlfhigcaaTopRisesV2
import Derived.Test.YtnlbfomlfhigcaaTopRisesV8
import Derived.Test.YtnlbfomlfhigcaaTopRisesV9
import Derived.Test.YtnlbfomlfhigcaaTopRisesV10
namespace Go.Proofs.Ytnlbfomlfhigcaa.Q
open Go.RowKit Go.Proofs.YtnlbfomlfhigcaaW.PrintWords Go.Proofs.YtnlbfomlfhigcaaW.PrintLast Go.Proofs.YtnlbfomlfhigcaaW.PrintMore
attribute [local go_sem] max2_int min2_int max_two min_two max_three min_three max_four min_four
set_option linter.unusedVariables false
set_option linter.unusedSimpArgs false
attribute [local go_sem high] eqA137
mutual
def broad_Sum.j1 : Nat → Int → Bool → Int → Int → Int → Bool → Int → Bool → Int → Int → Int → Bool → Option (Int × Bool × Int × Int × Int × Bool)
 | 0, _, _, _, _, _, _, _, _, _, _, _, _ => none
 | k + 1, x283000, x283001, x283002, x283003, x283004, x283005, x284000, x284001, x284002, x284003, x284004, x284005 => (broad_wide_under.f k x284003 x284004 0 0 (wrap64 (x283002 - x284002))).bind fun bt286 => (if (x283001 == x284001) = true then ((broad_wide_plus.f x283003 x283004 0 0 bt286.1 bt286.2.1 bt286.2.2.1 bt286.2.2.2.1).bind fun bt294 => (if bt294.2.2.2.2 = 1 then ((broad_wide_under.f k bt294.1 bt294.2.1 bt294.2.2.1 bt294.2.2.2.1 1).bind fun bt300 => (if bt286.2.2.2.2 = true then (broad_Sum.j2 k true 1 x283001 (wrap64 (x283002 + 1)) 0 0 false (Go.bits .or .u64 bt300.1 9223372036854775808) bt300.2.1 bt300.2.2.1 bt300.2.2.2.1) else (broad_Sum.j2 k ((Go.bits .and .u64 bt294.2.2.2.1 1) == 1) 1 x283001 (wrap64 (x283002 + 1)) 0 0 false (Go.bits .or .u64 bt300.1 9223372036854775808) bt300.2.1 bt300.2.2.1 bt300.2.2.2.1))) else (broad_Sum.j2 k bt286.2.2.2.2 1 x283001 x283002 0 0 false bt294.1 bt294.2.1 bt294.2.2.1 bt294.2.2.2.1))) else (if bt286.2.2.2.2 = true then (broad_Sum.j3 k bt286.2.2.2.2 1 x284000 x284001 x284002 x284003 x284004 x284005 x283003 x283004 0 0 bt286.1 bt286.2.1 bt286.2.2.1 bt286.2.2.2.1 1 x283001 x283002 0 0 false) else (broad_Sum.j3 k bt286.2.2.2.2 0 x284000 x284001 x284002 x284003 x284004 x284005 x283003 x283004 0 0 bt286.1 bt286.2.1 bt286.2.2.1 bt286.2.2.2.1 1 x283001 x283002 0 0 false)))
def broad_Sum.j5 : Nat → Bool → Int → Bool → Int → Int → Int → Bool → Int → Int → Int → Int → Option (Int × Bool × Int × Int × Int × Bool)
 | 0, _, _, _, _, _, _, _, _, _, _, _ => none
 | k + 1, x7, x293000, x293001, x293002, x293003, x293004, x293005, x294000, x294001, x294002, x294003 => if x7 = true then (broad_Sum.j6 k x293000 x293001 x293002 x294000 x294001 true) else (if x294002 = 0 then (broad_Sum.j6 k x293000 x293001 x293002 x294000 x294001 (x294003 != 0)) else (broad_Sum.j6 k x293000 x293001 x293002 x294000 x294001 true))
def broad_Sum.j6 : Nat → Int → Bool → Int → Int → Int → Bool → Option (Int × Bool × Int × Int × Int × Bool)
 | 0, _, _, _, _, _, _ => none
 | k + 1, x293000, x293001, x293002, x293003, x293004, x293005 => some (x293000, x293001, mx (-1099511627776) (mn x293002 1099511627776), x293003, x293004, x293005)
def broad_Sum.j2 : Nat → Bool → Int → Bool → Int → Int → Int → Bool → Int → Int → Int → Int → Option (Int × Bool × Int × Int × Int × Bool)
 | 0, _, _, _, _, _, _, _, _, _, _, _ => none
 | k + 1, x7, x293000, x293001, x293002, x293003, x293004, x293005, x300000, x300001, x300002, x300003 => broad_Sum.j5 k x7 x293000 x293001 x293002 x293003 x293004 x293005 x300000 x300001 x300002 x300003
def broad_Sum.j3 : Nat → Bool → Int → Int → Bool → Int → Int → Int → Bool → Int → Int → Int → Int → Int → Int → Int → Int → Int → Bool → Int → Int → Int → Bool → Option (Int × Bool × Int × Int × Int × Bool)
 | 0, _, _, _, _, _, _, _, _, _, _, _, _, _, _, _, _, _, _, _, _, _, _ => none
 | k + 1, x7, x13, x284000, x284001, x284002, x284003, x284004, x284005, x286000, x286001, x286002, x286003, x292000, x292001, x292002, x292003, x293000, x293001, x293002, x293003, x293004, x293005 => (broad_wide_less.f x286000 x286001 x286002 x286003 x292000 x292001 x292002 x292003 x13).bind fun bt305 => (if bt305.2.2.2.2 = 1 then ((broad_wide_less.f x292000 x292001 x292002 x292003 x286000 x286001 x286002 x286003 0).bind fun bt311 => (broad_Sum.j4 k x7 x293000 x284001 x293002 x293003 x293004 x293005 bt311.1 bt311.2.1 bt311.2.2.1 bt311.2.2.2.1)) else (broad_Sum.j4 k x7 x293000 x293001 x293002 x293003 x293004 x293005 bt305.1 bt305.2.1 bt305.2.2.1 bt305.2.2.2.1))
def broad_Sum.j4 : Nat → Bool → Int → Bool → Int → Int → Int → Bool → Int → Int → Int → Int → Option (Int × Bool × Int × Int × Int × Bool)
 | 0, _, _, _, _, _, _, _, _, _, _, _ => none
 | k + 1, x7, x293000, x293001, x293002, x293003, x293004, x293005, x311000, x311001, x311002, x311003 => if (x311000 == 0 && (x311001 == 0 && (x311002 == 0 && (x311003 == 0)))) = true then (some (0, false, 0, 0, 0, false)) else ((broad_wide_raised.f x311000 x311001 x311002 x311003).bind fun bt316 => (broad_Sum.j5 k x7 x293000 x293001 (wrap64 (x293002 - bt316.2.2.2.2)) x293003 x293004 x293005 bt316.1 bt316.2.1 bt316.2.2.1 bt316.2.2.2.1))
def broad_Sum.j0 : Nat → Bool → Int → Bool → Int → Int → Int → Bool → Int → Bool → Int → Int → Int → Bool → Option (Int × Bool × Int × Int × Int × Bool)
 | 0, _, _, _, _, _, _, _, _, _, _, _, _, _ => none
 | k + 1, x17, x283000, x283001, x283002, x283003, x283004, x283005, x284000, x284001, x284002, x284003, x284004, x284005 => if x17 = true then (some (2, false, 0, 0, 0, false)) else (if x283000 = 0 then (some (x284000, x284001, x284002, x284003, x284004, x284005)) else (if x284000 = 0 then (some (x283000, x283001, x283002, x283003, x283004, x283005)) else (if x283002 < x284002 then (broad_Sum.j1 k x284000 x284001 x284002 x284003 x284004 x284005 x283000 x283001 x283002 x283003 x283004 x283005) else (broad_Sum.j1 k x283000 x283001 x283002 x283003 x283004 x283005 x284000 x284001 x284002 x284003 x284004 x284005))))
end
def broad_Sum.f (k : Nat) (a0_0 : Int) (a0_1 : Bool) (a0_2 : Int) (a0_3 : Int) (a0_4 : Int) (a0_5 : Bool) (a1_0 : Int) (a1_1 : Bool) (a1_2 : Int) (a1_3 : Int) (a1_4 : Int) (a1_5 : Bool) : Option (Int × Bool × Int × Int × Int × Bool) := if a0_0 = 2 then (broad_Sum.j0 k true a0_0 a0_1 a0_2 a0_3 a0_4 a0_5 a1_0 a1_1 a1_2 a1_3 a1_4 a1_5) else (broad_Sum.j0 k (a1_0 == 2) a0_0 a0_1 a0_2 a0_3 a0_4 a0_5 a1_0 a1_1 a1_2 a1_3 a1_4 a1_5)
def broad_Sum.T34 : Bool × List (List Nat × List Nat) := (true, [([], []), ([0], [0]), ([], []), ([2], [2]), ([0, 1], []), ([4, 1, 0, 1], [1, 4]), ([0, 1, 2, 3, 4, 5], []), ([6, 3, 5, 0, 1, 2, 3, 4, 5], [3, 6])])
def broad_Sum.B34 : List Nat := [0, 1, 0, 4, 3, 19, 63, 127]
theorem broad_Sum.tab34 : rtab .any (opsOf Try.f79 34) = broad_Sum.T34 := by kernel_rfl
theorem broad_Sum.bits34 : waitsOk broad_Sum.T34.2 broad_Sum.B34 = true := by kernel_rfl
set_option maxHeartbeats 8000000 in
set_option maxRecDepth 100000 in
theorem broad_Sum.calls (k : Nat) (a0_0 : Int) (a0_1 : Bool) (a0_2 : Int) (a0_3 : Int) (a0_4 : Int) (a0_5 : Bool) (a1_0 : Int) (a1_1 : Bool) (a1_2 : Int) (a1_3 : Int) (a1_4 : Int) (a1_5 : Bool) (r1 : Int) (r2 : Bool) (r3 : Int) (r4 : Int) (r5 : Int) (r6 : Bool) (w : World) (h : broad_Sum.f k a0_0 a0_1 a0_2 a0_3 a0_4 a0_5 a1_0 a1_1 a1_2 a1_3 a1_4 a1_5 = some (r1, r2, r3, r4, r5, r6)) :
  Calls Try.prog 79 #[.agg #[.int .i64 a0_0, .bool a0_1, .int .i64 a0_2, .int .u64 a0_3, .int .u64 a0_4, .bool a0_5], .agg #[.int .i64 a1_0, .bool a1_1, .int .i64 a1_2, .int .u64 a1_3, .int .u64 a1_4, .bool a1_5]] w fun e w' => e = .returned (.agg #[.int .i64 r1, .bool r2, .int .i64 r3, .int .u64 r4, .int .u64 r5, .bool r6]) ∧ Below w.heap.size w w' := by
 have hu86 := Try.underlying86
 have hu137 := Try.underlying137
 have HB := Aside0.mk (Below.refl w.heap.size w)
 have H := h
 clear h
 unfold broad_Sum.f at H
 have HC3 := Aside0.mk H
 clear H
 go_enter Try.func79, Try.ntmps79
 go_upto_block 0 with (first | ((with_reducible refine gate_dst (N := 2) rfl ?_); refine boxA 2 (#[.int .i64 a0_0, .bool a0_1, .int .i64 a0_2, .int .u64 a0_3, .int .u64 a0_4, .bool a0_5]) 86 ?_; intro gb282 hg w4 BK282 hb; have GW282 := geT hg; have GE282 := GW282; replace HB := hbS hb; clear hb hg) | ((with_reducible refine gate_dst (N := 3) rfl ?_); refine boxA 3 (#[.int .i64 a1_0, .bool a1_1, .int .i64 a1_2, .int .u64 a1_3, .int .u64 a1_4, .bool a1_5]) 86 ?_; intro gb283 hg w5 BK283 hb; have GW283 := geT hg; have GE283 := GW283; obtain ⟨NB282_283, NB283_282⟩ := neT BK282 hg; replace BK282 := bkB BK282 hb; replace HB := hbS hb; clear hb hg) | ((with_reducible refine gate_dst (N := 4) rfl ?_); refine boxA 4 (#[.int .i64 0, .bool false, .int .i64 0, .int .u64 0, .int .u64 0, .bool false]) 86 ?_; intro gb284 hg w6 BK284 hb; have GW284 := geT hg; have GE284 := GW284; obtain ⟨NB282_284, NB284_282⟩ := neT BK282 hg; obtain ⟨NB283_284, NB284_283⟩ := neT BK283 hg; replace BK282 := bkB BK282 hb; replace BK283 := bkB BK283 hb; replace HB := hbS hb; clear hb hg))
 (try simp only [Act.put, List.setIfInBounds_toArray, List.set_cons_zero, List.set_cons_succ])
 go_cut [] (fun wc => ∃ (kq : Nat) (x283000_2 : Int) (x283001_2 : Bool) (x283002_2 : Int) (x283003_2 : Int) (x283004_2 : Int) (x283005_2 : Bool) (x284000_2 : Int) (x284001_2 : Bool) (x284002_2 : Int) (x284003_2 : Int) (x284004_2 : Int) (x284005_2 : Bool) (x285000_2 : Int) (x285001_2 : Bool) (x285002_2 : Int) (x285003_2 : Int) (x285004_2 : Int) (x285005_2 : Bool), Aside0 (broad_Sum.j1 kq x283000_2 x283001_2 x283002_2 x283003_2 x283004_2 x283005_2 x284000_2 x284001_2 x284002_2 x284003_2 x284004_2 x284005_2 = some (r1, r2, r3, r4, r5, r6)) ∧ Aside0 (kq ≤ k) ∧ Aside0 (wc.heap[gb282]? = some (.cells #[.int .i64 x283000_2, .bool x283001_2, .int .i64 x283002_2, .int .u64 x283003_2, .int .u64 x283004_2, .bool x283005_2] 86 (0, 0))) ∧ Aside0 (wc.heap[gb283]? = some (.cells #[.int .i64 x284000_2, .bool x284001_2, .int .i64 x284002_2, .int .u64 x284003_2, .int .u64 x284004_2, .bool x284005_2] 86 (0, 0))) ∧ Aside0 (wc.heap[gb284]? = some (.cells #[.int .i64 x285000_2, .bool x285001_2, .int .i64 x285002_2, .int .u64 x285003_2, .int .u64 x285004_2, .bool x285005_2] 86 (0, 0))) ∧ Aside0 (Below w.heap.size w wc))
 case first =>
  have H := HC3.out
  clear HC3
  have HC7 := Aside0.mk H
  clear H
  go_upto_region 1 with (fail)
  go_cut [17] (fun v17 wc => ∃ (kq : Nat) (x17_6 : Bool), v17 = .bool x17_6 ∧ Aside0 (broad_Sum.j0 kq x17_6 a0_0 a0_1 a0_2 a0_3 a0_4 a0_5 a1_0 a1_1 a1_2 a1_3 a1_4 a1_5 = some (r1, r2, r3, r4, r5, r6)) ∧ Aside0 (kq ≤ k) ∧ Aside0 (wc.heap[gb282]? = some (.cells #[.int .i64 a0_0, .bool a0_1, .int .i64 a0_2, .int .u64 a0_3, .int .u64 a0_4, .bool a0_5] 86 (0, 0))) ∧ Aside0 (wc.heap[gb283]? = some (.cells #[.int .i64 a1_0, .bool a1_1, .int .i64 a1_2, .int .u64 a1_3, .int .u64 a1_4, .bool a1_5] 86 (0, 0))) ∧ Aside0 (wc.heap[gb284]? = some (.cells #[.int .i64 0, .bool false, .int .i64 0, .int .u64 0, .int .u64 0, .bool false] 86 (0, 0))) ∧ Aside0 (Below w.heap.size w wc))
  case first =>
   have H := HC7.out
   clear HC7
   by_cases c8 : a0_0 = 2
   ·rw [if_pos c8] at H
    obtain ⟨c8b0, c8b1⟩ := eqY c8
    clear c8
    (first | rw [c8b0] | (simp only [i64_w, i32_w]; rw [c8b0]) | rw [c8b1] | skip)
    have H' := Aside0.mk H
    clear H
    have hnb9 := NB282_283.out
    have hnc9 := NB283_282.out
    have hnb10 := NB282_284.out
    have hnc10 := NB284_282.out
    obtain ⟨z11_0, z11_1, z11_2, z11_3, z11_4, z11_5, y11_0, y11_1, y11_2, y11_3, y11_4, y11_5⟩ := cz6 BK282
    go_wp2
    go_meet
    case rel => exact ⟨_, (true), okT, H', leT, ⟨bkT BK282⟩, ⟨bkT BK283⟩, ⟨bkT BK284⟩, ⟨hbT⟩⟩
   ·rw [if_neg c8] at H
    obtain ⟨c8b0, c8b1⟩ := eqN c8
    (first | rw [c8b0] | (simp only [i64_w, i32_w]; rw [c8b0]) | rw [c8b1] | skip)
    have H' := Aside0.mk H
    clear H
    have hnb12 := NB282_283.out
    have hnc12 := NB283_282.out
    have hnb13 := NB282_284.out
    have hnc13 := NB284_282.out
    obtain ⟨z14_0, z14_1, z14_2, z14_3, z14_4, z14_5, y14_0, y14_1, y14_2, y14_3, y14_4, y14_5⟩ := cz6 BK282
    have hnb15 := NB283_284.out
    have hnc15 := NB284_283.out
    obtain ⟨z16_0, z16_1, z16_2, z16_3, z16_4, z16_5, y16_0, y16_1, y16_2, y16_3, y16_4, y16_5⟩ := cz6 BK283
    go_wp2
    go_meet
    case rel => exact ⟨_, ((a1_0 == 2)), okT, H', leT, ⟨bkT BK282⟩, ⟨bkT BK283⟩, ⟨bkT BK284⟩, ⟨hbT⟩⟩
  case rest =>
   clear HC7
   obtain ⟨kq, x17_6, rfl, HA, HJ6, BK282, BK283, BK284, HB⟩ := hcut
   cases kq with
   | zero => exact absurd HA.out (by simp [broad_Sum.j0])
   | succ kj6 =>
    have H := HA.out
    clear HA
    simp only [broad_Sum.j0] at H
    by_cases c17 : x17_6 = true
    ·subst c17
     rw [if_pos rfl] at H
     simp only [Option.some.injEq, Prod.mk.injEq] at H
     obtain ⟨rfl, rfl, rfl, rfl, rfl, rfl⟩ := H
     have hnb18 := NB284_282.out
     have hnc18 := NB282_284.out
     have hnb19 := NB284_283.out
     have hnc19 := NB283_284.out
     obtain ⟨z20_0, z20_1, z20_2, z20_3, z20_4, z20_5, y20_0, y20_1, y20_2, y20_3, y20_4, y20_5⟩ := cz6 BK284
     go_wp2
     refine bodyPost_ret (results_cell_row rfl _ _ gb284 86 #[.int .i64 2, .bool false, .int .i64 0, .int .u64 0, .int .u64 0, .bool false] (0, 0) _ rfl (bkT BK284) Try.underlying86 rfl (by kernel_rfl)) rfl ?_
     exact ⟨reT, hbT⟩
    ·replace c17 := Bool.eq_false_iff.mpr c17
     subst c17
     rw [if_neg (show ¬ (false = true) by decide)] at H
     by_cases c21 : a0_0 = 0
     ·rw [if_pos c21] at H
      obtain ⟨c21b0, c21b1⟩ := eqY c21
      clear c21
      simp only [Option.some.injEq, Prod.mk.injEq] at H
      obtain ⟨rfl, rfl, rfl, rfl, rfl, rfl⟩ := H
      have hnb22 := NB282_283.out
      have hnc22 := NB283_282.out
      have hnb23 := NB282_284.out
      have hnc23 := NB284_282.out
      obtain ⟨z24_0, z24_1, z24_2, z24_3, z24_4, z24_5, y24_0, y24_1, y24_2, y24_3, y24_4, y24_5⟩ := cz6 BK282
      have hnb25 := NB283_284.out
      have hnc25 := NB284_283.out
      obtain ⟨z26_0, z26_1, z26_2, z26_3, z26_4, z26_5, y26_0, y26_1, y26_2, y26_3, y26_4, y26_5⟩ := cz6 BK283
      obtain ⟨z27_0, z27_1, z27_2, z27_3, z27_4, z27_5, y27_0, y27_1, y27_2, y27_3, y27_4, y27_5⟩ := cz6 BK284
      go_wp2
      refine bodyPost_ret (results_cell_row rfl _ _ gb284 86 #[.int .i64 a1_0, .bool a1_1, .int .i64 a1_2, .int .u64 a1_3, .int .u64 a1_4, .bool a1_5] (0, 0) _ rfl (bkT BK284) Try.underlying86 rfl (by kernel_rfl)) rfl ?_
      exact ⟨reT, hbT⟩
     ·rw [if_neg c21] at H
      obtain ⟨c21b0, c21b1⟩ := eqN c21
      by_cases c28 : a1_0 = 0
      ·rw [if_pos c28] at H
       obtain ⟨c28b0, c28b1⟩ := eqY c28
       clear c28
       simp only [Option.some.injEq, Prod.mk.injEq] at H
       obtain ⟨rfl, rfl, rfl, rfl, rfl, rfl⟩ := H
       have hnb29 := NB282_283.out
       have hnc29 := NB283_282.out
       have hnb30 := NB282_284.out
       have hnc30 := NB284_282.out
       obtain ⟨z31_0, z31_1, z31_2, z31_3, z31_4, z31_5, y31_0, y31_1, y31_2, y31_3, y31_4, y31_5⟩ := cz6 BK282
       have hnb32 := NB283_284.out
       have hnc32 := NB284_283.out
       obtain ⟨z33_0, z33_1, z33_2, z33_3, z33_4, z33_5, y33_0, y33_1, y33_2, y33_3, y33_4, y33_5⟩ := cz6 BK283
       obtain ⟨z34_0, z34_1, z34_2, z34_3, z34_4, z34_5, y34_0, y34_1, y34_2, y34_3, y34_4, y34_5⟩ := cz6 BK284
       go_wp2
       refine bodyPost_ret (results_cell_row rfl _ _ gb284 86 #[.int .i64 a0_0, .bool a0_1, .int .i64 a0_2, .int .u64 a0_3, .int .u64 a0_4, .bool a0_5] (0, 0) _ rfl (bkT BK284) Try.underlying86 rfl (by kernel_rfl)) rfl ?_
       exact ⟨reT, hbT⟩
      ·rw [if_neg c28] at H
       obtain ⟨c28b0, c28b1⟩ := eqN c28
       by_cases c35 : a0_2 < a1_2
       ·rw [if_pos c35] at H
        have c35b0 : decide (a0_2 < a1_2) = true := decide_eq_true c35
        clear c35
        have H' := Aside0.mk H
        clear H
        have hnb36 := NB282_283.out
        have hnc36 := NB283_282.out
        have hnb37 := NB282_284.out
        have hnc37 := NB284_282.out
        obtain ⟨z38_0, z38_1, z38_2, z38_3, z38_4, z38_5, y38_0, y38_1, y38_2, y38_3, y38_4, y38_5⟩ := cz6 BK282
        have hnb39 := NB283_284.out
        have hnc39 := NB284_283.out
        obtain ⟨z40_0, z40_1, z40_2, z40_3, z40_4, z40_5, y40_0, y40_1, y40_2, y40_3, y40_4, y40_5⟩ := cz6 BK283
        go_wp2
        go_meet
        case rel => exact ⟨_, (a1_0), (a1_1), (a1_2), (a1_3), (a1_4), (a1_5), (a0_0), (a0_1), (a0_2), (a0_3), (a0_4), (a0_5), (0), (false), (0), (0), (0), (false), H', ⟨by have := HJ6.out; first | omega | exact Nat.le_refl _⟩, ⟨bkT BK282⟩, ⟨bkT BK283⟩, ⟨bkT BK284⟩, ⟨hbT⟩⟩
       ·rw [if_neg c35] at H
        have c35b0 : decide (a0_2 < a1_2) = false := decide_eq_false c35
        clear c35
        have H' := Aside0.mk H
        clear H
        have hnb41 := NB282_283.out
        have hnc41 := NB283_282.out
        have hnb42 := NB282_284.out
        have hnc42 := NB284_282.out
        obtain ⟨z43_0, z43_1, z43_2, z43_3, z43_4, z43_5, y43_0, y43_1, y43_2, y43_3, y43_4, y43_5⟩ := cz6 BK282
        have hnb44 := NB283_284.out
        have hnc44 := NB284_283.out
        obtain ⟨z45_0, z45_1, z45_2, z45_3, z45_4, z45_5, y45_0, y45_1, y45_2, y45_3, y45_4, y45_5⟩ := cz6 BK283
        go_wp2
        go_meet
        case rel => exact ⟨_, (a0_0), (a0_1), (a0_2), (a0_3), (a0_4), (a0_5), (a1_0), (a1_1), (a1_2), (a1_3), (a1_4), (a1_5), (0), (false), (0), (0), (0), (false), H', ⟨by have := HJ6.out; first | omega | exact Nat.le_refl _⟩, ⟨bkT BK282⟩, ⟨bkT BK283⟩, ⟨bkT BK284⟩, ⟨hbT⟩⟩
 case rest =>
  clear HC3
  obtain ⟨kq, x283000_2, x283001_2, x283002_2, x283003_2, x283004_2, x283005_2, x284000_2, x284001_2, x284002_2, x284003_2, x284004_2, x284005_2, x285000_2, x285001_2, x285002_2, x285003_2, x285004_2, x285005_2, HA, HJ2, BK282, BK283, BK284, HB⟩ := hcut
  cases kq with
  | zero => exact absurd HA.out (by simp [broad_Sum.j1])
  | succ kj2 =>
   have H := HA.out
   clear HA
   simp only [broad_Sum.j1] at H
   replace H := Option.bind_eq_some_iff.mp H
   obtain ⟨⟨t286, t287, t288, t289, t290⟩, A460, H⟩ := H
   try dsimp only at H
   have A46 := Aside0.mk A460
   clear A460
   have HC47 := Aside0.mk H
   clear H
   have hnb48 := NB282_283.out
   have hnc48 := NB283_282.out
   have hnb49 := NB282_284.out
   have hnc49 := NB284_282.out
   obtain ⟨z50_0, z50_1, z50_2, z50_3, z50_4, z50_5, y50_0, y50_1, y50_2, y50_3, y50_4, y50_5⟩ := cz6 BK282
   go_upto_if 73 with (first | ((with_reducible refine gate_dst (N := 5) rfl ?_); refine boxA 5 (#[.int .u64 0, .int .u64 0, .int .u64 0, .int .u64 0]) 137 ?_; intro gb285 hg w51 BK285 hb; have GW285 := geT hg; have GE285 := GW285; obtain ⟨NB282_285, NB285_282⟩ := neT BK282 hg; obtain ⟨NB283_285, NB285_283⟩ := neT BK283 hg; obtain ⟨NB284_285, NB285_284⟩ := neT BK284 hg; replace BK282 := bkB BK282 hb; replace BK283 := bkB BK283 hb; replace BK284 := bkB BK284 hb; replace HB := hbS hb; clear hb hg; have hnb52 := NB285_282.out; have hnc52 := NB282_285.out; have hnb53 := NB285_283.out; have hnc53 := NB283_285.out; have hnb54 := NB285_284.out; have hnc54 := NB284_285.out; obtain ⟨z55_0, z55_1, z55_2, z55_3, y55_0, y55_1, y55_2, y55_3⟩ := cz4 BK285; have hnb56 := NB283_284.out; have hnc56 := NB284_283.out; obtain ⟨z57_0, z57_1, z57_2, z57_3, z57_4, z57_5, y57_0, y57_1, y57_2, y57_3, y57_4, y57_5⟩ := cz6 BK283; obtain ⟨z58_0, z58_1, z58_2, z58_3, z58_4, z58_5, y58_0, y58_1, y58_2, y58_3, y58_4, y58_5⟩ := cz6 BK282) | ((with_reducible refine gate_callee (f := 101) rfl ?_); refine goA (some 61) Try.func101 (broad_wide_under.calls kj2 x284003_2 x284004_2 0 0 (wrap64 (x283002_2 - x284002_2)) t286 t287 t288 t289 t290 _ A46.out) ?_; intro w59 hb; replace BK282 := bkB BK282 hb; replace BK283 := bkB BK283 hb; replace BK284 := bkB BK284 hb; replace BK285 := bkB (o := .cells #[.int .u64 x283003_2, .int .u64 x283004_2, .int .u64 0, .int .u64 0] 137 (0, 0)) BK285 hb; replace HB := hbS hb; clear hb) | ((with_reducible refine gate_dst (N := 6) rfl ?_); refine boxA 6 (#[.int .u64 0, .int .u64 0, .int .u64 0, .int .u64 0]) 137 ?_; intro gb291 hg w60 BK291 hb; have GW291 := geT hg; have GE291 := GW291; obtain ⟨NB282_291, NB291_282⟩ := neT BK282 hg; obtain ⟨NB283_291, NB291_283⟩ := neT BK283 hg; obtain ⟨NB284_291, NB291_284⟩ := neT BK284 hg; obtain ⟨NB285_291, NB291_285⟩ := neT BK285 hg; replace BK282 := bkB BK282 hb; replace BK283 := bkB BK283 hb; replace BK284 := bkB BK284 hb; replace BK285 := bkB BK285 hb; replace HB := hbS hb; clear hb hg; have hnb61 := NB291_282.out; have hnc61 := NB282_291.out; have hnb62 := NB291_283.out; have hnc62 := NB283_291.out; have hnb63 := NB291_284.out; have hnc63 := NB284_291.out; have hnb64 := NB291_285.out; have hnc64 := NB285_291.out; obtain ⟨z65_0, z65_1, z65_2, z65_3, y65_0, y65_1, y65_2, y65_3⟩ := cz4 BK291; obtain ⟨z66_0, z66_1, z66_2, z66_3, z66_4, z66_5, y66_0, y66_1, y66_2, y66_3, y66_4, y66_5⟩ := cz6 BK282) | ((with_reducible refine gate_dst (N := 8) rfl ?_); refine boxA 8 (#[.int .i64 0, .bool false, .int .i64 0, .int .u64 0, .int .u64 0, .bool false]) 86 ?_; intro gb292 hg w67 BK292 hb; have GW292 := geT hg; have GE292 := GW292; obtain ⟨NB282_292, NB292_282⟩ := neT BK282 hg; obtain ⟨NB283_292, NB292_283⟩ := neT BK283 hg; obtain ⟨NB284_292, NB292_284⟩ := neT BK284 hg; obtain ⟨NB285_292, NB292_285⟩ := neT BK285 hg; obtain ⟨NB291_292, NB292_291⟩ := neT (o := .cells #[.int .u64 t286, .int .u64 t287, .int .u64 t288, .int .u64 t289] 137 (0, 0)) BK291 hg; replace BK282 := bkB BK282 hb; replace BK283 := bkB BK283 hb; replace BK284 := bkB BK284 hb; replace BK285 := bkB BK285 hb; replace BK291 := bkB (o := .cells #[.int .u64 t286, .int .u64 t287, .int .u64 t288, .int .u64 t289] 137 (0, 0)) BK291 hb; replace HB := hbS hb; clear hb hg; have hnb68 := NB292_282.out; have hnc68 := NB282_292.out; have hnb69 := NB292_283.out; have hnc69 := NB283_292.out; have hnb70 := NB292_284.out; have hnc70 := NB284_292.out; have hnb71 := NB292_285.out; have hnc71 := NB285_292.out; have hnb72 := NB292_291.out; have hnc72 := NB291_292.out; obtain ⟨z73_0, z73_1, z73_2, z73_3, z73_4, z73_5, y73_0, y73_1, y73_2, y73_3, y73_4, y73_5⟩ := cz6 BK292) | ((with_reducible refine gate_dst (N := 9) rfl ?_); refine boxA 9 (#[.int .u64 0, .int .u64 0, .int .u64 0, .int .u64 0]) 137 ?_; intro gb293 hg w74 BK293 hb; have GW293 := geT hg; have GE293 := GW293; obtain ⟨NB282_293, NB293_282⟩ := neT BK282 hg; obtain ⟨NB283_293, NB293_283⟩ := neT BK283 hg; obtain ⟨NB284_293, NB293_284⟩ := neT BK284 hg; obtain ⟨NB285_293, NB293_285⟩ := neT BK285 hg; obtain ⟨NB291_293, NB293_291⟩ := neT BK291 hg; obtain ⟨NB292_293, NB293_292⟩ := neT (o := .cells #[.int .i64 1, .bool x283001_2, .int .i64 x283002_2, .int .u64 0, .int .u64 0, .bool false] 86 (0, 0)) BK292 hg; replace BK282 := bkB BK282 hb; replace BK283 := bkB BK283 hb; replace BK284 := bkB BK284 hb; replace BK285 := bkB BK285 hb; replace BK291 := bkB BK291 hb; replace BK292 := bkB (o := .cells #[.int .i64 1, .bool x283001_2, .int .i64 x283002_2, .int .u64 0, .int .u64 0, .bool false] 86 (0, 0)) BK292 hb; replace HB := hbS hb; clear hb hg; have hnb75 := NB282_293.out; have hnc75 := NB293_282.out; obtain ⟨z76_0, z76_1, z76_2, z76_3, z76_4, z76_5, y76_0, y76_1, y76_2, y76_3, y76_4, y76_5⟩ := cz6 BK282; have hnb77 := NB283_293.out; have hnc77 := NB293_283.out; obtain ⟨z78_0, z78_1, z78_2, z78_3, z78_4, z78_5, y78_0, y78_1, y78_2, y78_3, y78_4, y78_5⟩ := cz6 BK283))
   (try simp only [Act.put, List.setIfInBounds_toArray, List.set_cons_zero, List.set_cons_succ])
   go_cut [7] (fun v7 wc => ∃ (kq : Nat) (x7_46 : Bool) (x285000_46 : Int) (x285001_46 : Bool) (x285002_46 : Int) (x285003_46 : Int) (x285004_46 : Int) (x285005_46 : Bool) (x293001_46 : Bool) (x293002_46 : Int) (x294000_46 : Int) (x294001_46 : Int) (x294002_46 : Int) (x294003_46 : Int), v7 = .bool x7_46 ∧ Aside0 (broad_Sum.j5 kq x7_46 1 x293001_46 x293002_46 0 0 false x294000_46 x294001_46 x294002_46 x294003_46 = some (r1, r2, r3, r4, r5, r6)) ∧ Aside0 (kq ≤ kj2) ∧ Aside0 (wc.heap[gb282]? = some (.cells #[.int .i64 x283000_2, .bool x283001_2, .int .i64 x283002_2, .int .u64 x283003_2, .int .u64 x283004_2, .bool x283005_2] 86 (0, 0))) ∧ Aside0 (wc.heap[gb283]? = some (.cells #[.int .i64 x284000_2, .bool x284001_2, .int .i64 x284002_2, .int .u64 x284003_2, .int .u64 x284004_2, .bool x284005_2] 86 (0, 0))) ∧ Aside0 (wc.heap[gb284]? = some (.cells #[.int .i64 x285000_46, .bool x285001_46, .int .i64 x285002_46, .int .u64 x285003_46, .int .u64 x285004_46, .bool x285005_46] 86 (0, 0))) ∧ Aside0 (wc.heap[gb285]? = some (.cells #[.int .u64 x283003_2, .int .u64 x283004_2, .int .u64 0, .int .u64 0] 137 (0, 0))) ∧ Aside0 (wc.heap[gb291]? = some (.cells #[.int .u64 t286, .int .u64 t287, .int .u64 t288, .int .u64 t289] 137 (0, 0))) ∧ Aside0 (wc.heap[gb292]? = some (.cells #[.int .i64 1, .bool x293001_46, .int .i64 x293002_46, .int .u64 0, .int .u64 0, .bool false] 86 (0, 0))) ∧ Aside0 (wc.heap[gb293]? = some (.cells #[.int .u64 x294000_46, .int .u64 x294001_46, .int .u64 x294002_46, .int .u64 x294003_46] 137 (0, 0))) ∧ Aside0 (Below w.heap.size w wc))
   case first =>
    have H := HC47.out
    clear HC47
    by_cases c79 : (x283001_2 == x284001_2) = true
    ·rw [if_pos c79] at H
     have c79b0 : (x283001_2 == x284001_2) = true := c79
     (try (have c79b1 : decide (x283001_2 = x284001_2) = true := by simpa using c79))
     (try (have c79b2 : (x283001_2 == x284001_2) = true := by simpa using c79))
     clear c79
     (first | rw [c79b0] | (simp only [i64_w, i32_w]; rw [c79b0]) | rw [c79b1] | skip)
     replace H := Option.bind_eq_some_iff.mp H
     obtain ⟨⟨t294, t295, t296, t297, t298⟩, A800, H⟩ := H
     try dsimp only at H
     have A80 := Aside0.mk A800
     clear A800
     have HC81 := Aside0.mk H
     clear H
     have hnb82 := NB285_282.out
     have hnc82 := NB282_285.out
     have hnb83 := NB285_283.out
     have hnc83 := NB283_285.out
     have hnb84 := NB285_284.out
     have hnc84 := NB284_285.out
     have hnb85 := NB285_291.out
     have hnc85 := NB291_285.out
     have hnb86 := NB285_292.out
     have hnc86 := NB292_285.out
     have hnb87 := NB285_293.out
     have hnc87 := NB293_285.out
     obtain ⟨z88_0, z88_1, z88_2, z88_3, y88_0, y88_1, y88_2, y88_3⟩ := cz4 BK285
     have hnb89 := NB291_282.out
     have hnc89 := NB282_291.out
     have hnb90 := NB291_283.out
     have hnc90 := NB283_291.out
     have hnb91 := NB291_284.out
     have hnc91 := NB284_291.out
     have hnb92 := NB291_292.out
     have hnc92 := NB292_291.out
     have hnb93 := NB291_293.out
     have hnc93 := NB293_291.out
     obtain ⟨z94_0, z94_1, z94_2, z94_3, y94_0, y94_1, y94_2, y94_3⟩ := cz4 BK291
     go_upto_if 81 with (first | ((with_reducible refine gate_callee (f := 102) rfl ?_); refine goA (some 77) Try.func102 (broad_wide_plus.calls x283003_2 x283004_2 0 0 t286 t287 t288 t289 t294 t295 t296 t297 t298 _ A80.out) ?_; intro w95 hb; replace BK282 := bkB BK282 hb; replace BK283 := bkB BK283 hb; replace BK284 := bkB BK284 hb; replace BK285 := bkB BK285 hb; replace BK291 := bkB BK291 hb; replace BK292 := bkB BK292 hb; replace BK293 := bkB BK293 hb; replace HB := hbS hb; clear hb) | ((with_reducible refine gate_dst (N := 10) rfl ?_); refine boxA 10 (#[.int .u64 0, .int .u64 0, .int .u64 0, .int .u64 0]) 137 ?_; intro gb299 hg w96 BK299 hb; have GW299 := geT hg; have GE299 := GW299; obtain ⟨NB282_299, NB299_282⟩ := neT BK282 hg; obtain ⟨NB283_299, NB299_283⟩ := neT BK283 hg; obtain ⟨NB284_299, NB299_284⟩ := neT BK284 hg; obtain ⟨NB285_299, NB299_285⟩ := neT BK285 hg; obtain ⟨NB291_299, NB299_291⟩ := neT BK291 hg; obtain ⟨NB292_299, NB299_292⟩ := neT BK292 hg; obtain ⟨NB293_299, NB299_293⟩ := neT BK293 hg; replace BK282 := bkB BK282 hb; replace BK283 := bkB BK283 hb; replace BK284 := bkB BK284 hb; replace BK285 := bkB BK285 hb; replace BK291 := bkB BK291 hb; replace BK292 := bkB BK292 hb; replace BK293 := bkB BK293 hb; replace HB := hbS hb; clear hb hg; have hnb97 := NB299_282.out; have hnc97 := NB282_299.out; have hnb98 := NB299_283.out; have hnc98 := NB283_299.out; have hnb99 := NB299_284.out; have hnc99 := NB284_299.out; have hnb100 := NB299_285.out; have hnc100 := NB285_299.out; have hnb101 := NB299_291.out; have hnc101 := NB291_299.out; have hnb102 := NB299_292.out; have hnc102 := NB292_299.out; have hnb103 := NB299_293.out; have hnc103 := NB293_299.out; obtain ⟨z104_0, z104_1, z104_2, z104_3, y104_0, y104_1, y104_2, y104_3⟩ := cz4 BK299))
     (try simp only [Act.put, List.setIfInBounds_toArray, List.set_cons_zero, List.set_cons_succ])
     go_cut [7] (fun v7 wc => ∃ (kq : Nat) (x7_80 : Bool) (x293002_80 : Int) (x300000_80 : Int) (x300001_80 : Int) (x300002_80 : Int) (x300003_80 : Int), v7 = .bool x7_80 ∧ Aside0 (broad_Sum.j2 kq x7_80 1 x283001_2 x293002_80 0 0 false x300000_80 x300001_80 x300002_80 x300003_80 = some (r1, r2, r3, r4, r5, r6)) ∧ Aside0 (kq ≤ kj2) ∧ Aside0 (wc.heap[gb282]? = some (.cells #[.int .i64 x283000_2, .bool x283001_2, .int .i64 x283002_2, .int .u64 x283003_2, .int .u64 x283004_2, .bool x283005_2] 86 (0, 0))) ∧ Aside0 (wc.heap[gb283]? = some (.cells #[.int .i64 x284000_2, .bool x284001_2, .int .i64 x284002_2, .int .u64 x284003_2, .int .u64 x284004_2, .bool x284005_2] 86 (0, 0))) ∧ Aside0 (wc.heap[gb284]? = some (.cells #[.int .i64 x285000_2, .bool x285001_2, .int .i64 x285002_2, .int .u64 x285003_2, .int .u64 x285004_2, .bool x285005_2] 86 (0, 0))) ∧ Aside0 (wc.heap[gb285]? = some (.cells #[.int .u64 x283003_2, .int .u64 x283004_2, .int .u64 0, .int .u64 0] 137 (0, 0))) ∧ Aside0 (wc.heap[gb291]? = some (.cells #[.int .u64 t286, .int .u64 t287, .int .u64 t288, .int .u64 t289] 137 (0, 0))) ∧ Aside0 (wc.heap[gb292]? = some (.cells #[.int .i64 1, .bool x283001_2, .int .i64 x293002_80, .int .u64 0, .int .u64 0, .bool false] 86 (0, 0))) ∧ Aside0 (wc.heap[gb293]? = some (.cells #[.int .u64 0, .int .u64 0, .int .u64 0, .int .u64 0] 137 (0, 0))) ∧ Aside0 (wc.heap[gb299]? = some (.cells #[.int .u64 x300000_80, .int .u64 x300001_80, .int .u64 x300002_80, .int .u64 x300003_80] 137 (0, 0))) ∧ Aside0 (Below w.heap.size w wc))
     case first =>
      have H := HC81.out
      clear HC81
      by_cases c105 : t298 = 1
      ·rw [if_pos c105] at H
       obtain ⟨c105b0, c105b1⟩ := eqY c105
       clear c105
       (first | rw [c105b0] | (simp only [i64_w, i32_w]; rw [c105b0]) | rw [c105b1] | skip)
       replace H := Option.bind_eq_some_iff.mp H
       obtain ⟨⟨t300, t301, t302, t303, t304⟩, A1060, H⟩ := H
       try dsimp only at H
       have A106 := Aside0.mk A1060
       clear A1060
       by_cases c107 : t290 = true
       ·subst c107
        rw [if_pos rfl] at H
        have H' := Aside0.mk H
        clear H
        have hnb108 := NB299_282.out
        have hnc108 := NB282_299.out
        have hnb109 := NB299_283.out
        have hnc109 := NB283_299.out
        have hnb110 := NB299_284.out
        have hnc110 := NB284_299.out
        have hnb111 := NB299_285.out
        have hnc111 := NB285_299.out
        have hnb112 := NB299_291.out
        have hnc112 := NB291_299.out
        have hnb113 := NB299_292.out
        have hnc113 := NB292_299.out
        have hnb114 := NB299_293.out
        have hnc114 := NB293_299.out
        obtain ⟨z115_0, z115_1, z115_2, z115_3, y115_0, y115_1, y115_2, y115_3⟩ := cz4 BK299
        go_wp2_with (first | ((with_reducible refine gate_callee (f := 101) rfl ?_); refine goA (some 88) Try.func101 (broad_wide_under.calls kj2 t294 t295 t296 t297 1 t300 t301 t302 t303 t304 _ A106.out) ?_; intro w116 hb; replace BK282 := bkB BK282 hb; replace BK283 := bkB BK283 hb; replace BK284 := bkB BK284 hb; replace BK285 := bkB BK285 hb; replace BK291 := bkB BK291 hb; replace BK292 := bkB BK292 hb; replace BK293 := bkB BK293 hb; replace BK299 := bkB (o := .cells #[.int .u64 t294, .int .u64 t295, .int .u64 t296, .int .u64 t297] 137 (0, 0)) BK299 hb; replace HB := hbS hb; clear hb; obtain ⟨z117_0, z117_1, z117_2, z117_3, y117_0, y117_1, y117_2, y117_3⟩ := cz4 BK299; have hnb118 := NB292_282.out; have hnc118 := NB282_292.out; have hnb119 := NB292_283.out; have hnc119 := NB283_292.out; have hnb120 := NB292_284.out; have hnc120 := NB284_292.out; have hnb121 := NB292_285.out; have hnc121 := NB285_292.out; have hnb122 := NB292_291.out; have hnc122 := NB291_292.out; have hnb123 := NB292_293.out; have hnc123 := NB293_292.out; obtain ⟨z124_0, z124_1, z124_2, z124_3, z124_4, z124_5, y124_0, y124_1, y124_2, y124_3, y124_4, y124_5⟩ := cz6 BK292))
        go_meet
        case rel => exact ⟨_, (true), (wrap64 (x283002_2 + 1)), (Go.bits .or .u64 t300 9223372036854775808), (t301), (t302), (t303), okT, H', ⟨by have := HJ2.out; first | omega | exact Nat.le_refl _⟩, ⟨bkT BK282⟩, ⟨bkT BK283⟩, ⟨bkT BK284⟩, ⟨bkT BK285⟩, ⟨bkT BK291⟩, ⟨bkT BK292⟩, ⟨bkT BK293⟩, ⟨bkT BK299⟩, ⟨hbT⟩⟩
       ·replace c107 := Bool.eq_false_iff.mpr c107
        subst c107
        rw [if_neg (show ¬ (false = true) by decide)] at H
        have H' := Aside0.mk H
        clear H
        have hnb125 := NB299_282.out
        have hnc125 := NB282_299.out
        have hnb126 := NB299_283.out
        have hnc126 := NB283_299.out
        have hnb127 := NB299_284.out
        have hnc127 := NB284_299.out
        have hnb128 := NB299_285.out
        have hnc128 := NB285_299.out
        have hnb129 := NB299_291.out
        have hnc129 := NB291_299.out
        have hnb130 := NB299_292.out
        have hnc130 := NB292_299.out
        have hnb131 := NB299_293.out
        have hnc131 := NB293_299.out
        obtain ⟨z132_0, z132_1, z132_2, z132_3, y132_0, y132_1, y132_2, y132_3⟩ := cz4 BK299
        go_wp2_with (first | ((with_reducible refine gate_callee (f := 101) rfl ?_); refine goA (some 88) Try.func101 (broad_wide_under.calls kj2 t294 t295 t296 t297 1 t300 t301 t302 t303 t304 _ A106.out) ?_; intro w133 hb; replace BK282 := bkB BK282 hb; replace BK283 := bkB BK283 hb; replace BK284 := bkB BK284 hb; replace BK285 := bkB BK285 hb; replace BK291 := bkB BK291 hb; replace BK292 := bkB BK292 hb; replace BK293 := bkB BK293 hb; replace BK299 := bkB (o := .cells #[.int .u64 t294, .int .u64 t295, .int .u64 t296, .int .u64 t297] 137 (0, 0)) BK299 hb; replace HB := hbS hb; clear hb; obtain ⟨z134_0, z134_1, z134_2, z134_3, y134_0, y134_1, y134_2, y134_3⟩ := cz4 BK299; have hnb135 := NB292_282.out; have hnc135 := NB282_292.out; have hnb136 := NB292_283.out; have hnc136 := NB283_292.out; have hnb137 := NB292_284.out; have hnc137 := NB284_292.out; have hnb138 := NB292_285.out; have hnc138 := NB285_292.out; have hnb139 := NB292_291.out; have hnc139 := NB291_292.out; have hnb140 := NB292_293.out; have hnc140 := NB293_292.out; obtain ⟨z141_0, z141_1, z141_2, z141_3, z141_4, z141_5, y141_0, y141_1, y141_2, y141_3, y141_4, y141_5⟩ := cz6 BK292))
        go_meet
        case rel => exact ⟨_, (((Go.bits .and .u64 t297 1) == 1)), (wrap64 (x283002_2 + 1)), (Go.bits .or .u64 t300 9223372036854775808), (t301), (t302), (t303), okT, H', ⟨by have := HJ2.out; first | omega | exact Nat.le_refl _⟩, ⟨bkT BK282⟩, ⟨bkT BK283⟩, ⟨bkT BK284⟩, ⟨bkT BK285⟩, ⟨bkT BK291⟩, ⟨bkT BK292⟩, ⟨bkT BK293⟩, ⟨bkT BK299⟩, ⟨hbT⟩⟩
      ·rw [if_neg c105] at H
       obtain ⟨c105b0, c105b1⟩ := eqN c105
       (first | rw [c105b0] | (simp only [i64_w, i32_w]; rw [c105b0]) | rw [c105b1] | skip)
       have H' := Aside0.mk H
       clear H
       go_wp2
       go_meet
       case rel => exact ⟨_, (t290), (x283002_2), (t294), (t295), (t296), (t297), okT, H', ⟨by have := HJ2.out; first | omega | exact Nat.le_refl _⟩, ⟨bkT BK282⟩, ⟨bkT BK283⟩, ⟨bkT BK284⟩, ⟨bkT BK285⟩, ⟨bkT BK291⟩, ⟨bkT BK292⟩, ⟨bkT BK293⟩, ⟨bkT BK299⟩, ⟨hbT⟩⟩
     case rest =>
      clear HC81
      try clear c79
      try clear c79b0
      try clear c79b1
      try clear c79b2
      try clear z104_0 z104_1 z104_2 z104_3 y104_0 y104_1 y104_2 y104_3
      try clear z50_0 z50_1 z50_2 z50_3 z50_4 z50_5 y50_0 y50_1 y50_2 y50_3 y50_4 y50_5
      try clear z55_0 z55_1 z55_2 z55_3 y55_0 y55_1 y55_2 y55_3
      try clear z57_0 z57_1 z57_2 z57_3 z57_4 z57_5 y57_0 y57_1 y57_2 y57_3 y57_4 y57_5
      try clear z58_0 z58_1 z58_2 z58_3 z58_4 z58_5 y58_0 y58_1 y58_2 y58_3 y58_4 y58_5
      try clear z65_0 z65_1 z65_2 z65_3 y65_0 y65_1 y65_2 y65_3
      try clear z66_0 z66_1 z66_2 z66_3 z66_4 z66_5 y66_0 y66_1 y66_2 y66_3 y66_4 y66_5
      try clear z73_0 z73_1 z73_2 z73_3 z73_4 z73_5 y73_0 y73_1 y73_2 y73_3 y73_4 y73_5
      try clear z76_0 z76_1 z76_2 z76_3 z76_4 z76_5 y76_0 y76_1 y76_2 y76_3 y76_4 y76_5
      try clear z78_0 z78_1 z78_2 z78_3 z78_4 z78_5 y78_0 y78_1 y78_2 y78_3 y78_4 y78_5
      try clear z88_0 z88_1 z88_2 z88_3 y88_0 y88_1 y88_2 y88_3
      try clear z94_0 z94_1 z94_2 z94_3 y94_0 y94_1 y94_2 y94_3
      obtain ⟨kq, x7_80, x293002_80, x300000_80, x300001_80, x300002_80, x300003_80, rfl, HA, HJ80, BK282, BK283, BK284, BK285, BK291, BK292, BK293, BK299, HB⟩ := hcut
      cases kq with
      | zero => exact absurd HA.out (by simp [broad_Sum.j2])
      | succ kj80 =>
       have H := HA.out
       clear HA
       simp only [broad_Sum.j2] at H
       have H' := Aside0.mk H
       clear H
       have hnb142 := NB299_282.out
       have hnc142 := NB282_299.out
       have hnb143 := NB299_283.out
       have hnc143 := NB283_299.out
       have hnb144 := NB299_284.out
       have hnc144 := NB284_299.out
       have hnb145 := NB299_285.out
       have hnc145 := NB285_299.out
       have hnb146 := NB299_291.out
       have hnc146 := NB291_299.out
       have hnb147 := NB299_292.out
       have hnc147 := NB292_299.out
       have hnb148 := NB299_293.out
       have hnc148 := NB293_299.out
       obtain ⟨z149_0, z149_1, z149_2, z149_3, y149_0, y149_1, y149_2, y149_3⟩ := cz4 BK299
       have hnb150 := NB293_282.out
       have hnc150 := NB282_293.out
       have hnb151 := NB293_283.out
       have hnc151 := NB283_293.out
       have hnb152 := NB293_284.out
       have hnc152 := NB284_293.out
       have hnb153 := NB293_285.out
       have hnc153 := NB285_293.out
       have hnb154 := NB293_291.out
       have hnc154 := NB291_293.out
       have hnb155 := NB293_292.out
       have hnc155 := NB292_293.out
       obtain ⟨z156_0, z156_1, z156_2, z156_3, y156_0, y156_1, y156_2, y156_3⟩ := cz4 BK293
       go_wp2
       go_meet
       case rel => exact ⟨_, (x7_80), (x285000_2), (x285001_2), (x285002_2), (x285003_2), (x285004_2), (x285005_2), (x283001_2), (x293002_80), (x300000_80), (x300001_80), (x300002_80), (x300003_80), okT, H', ⟨by have := HJ2.out; have := HJ80.out; first | omega | exact Nat.le_refl _⟩, ⟨bkT BK282⟩, ⟨bkT BK283⟩, ⟨bkT BK284⟩, ⟨bkT BK285⟩, ⟨bkT BK291⟩, ⟨bkT BK292⟩, ⟨bkT BK293⟩, ⟨hbT⟩⟩
    ·rw [if_neg c79] at H
     have c79b0 : (x283001_2 == x284001_2) = false := by simpa using c79
     (try (have c79b1 : decide (x283001_2 = x284001_2) = false := by simpa using c79))
     (try (have c79b2 : (x283001_2 == x284001_2) = false := by simpa using c79))
     (try (have c79b3 : ¬ (x283001_2 = x284001_2) := by simpa using c79))
     clear c79
     (first | rw [c79b0] | (simp only [i64_w, i32_w]; rw [c79b0]) | rw [c79b1] | skip)
     have HC157 := Aside0.mk H
     clear H
     go_upto_if 104 with (fail)
     go_cut [13] (fun v13 wc => ∃ (kq : Nat) (x13_156 : Int), v13 = .int .u64 x13_156 ∧ Aside0 (broad_Sum.j3 kq t290 x13_156 x284000_2 x284001_2 x284002_2 x284003_2 x284004_2 x284005_2 x283003_2 x283004_2 0 0 t286 t287 t288 t289 1 x283001_2 x283002_2 0 0 false = some (r1, r2, r3, r4, r5, r6)) ∧ Aside0 (kq ≤ kj2) ∧ Aside0 (wc.heap[gb282]? = some (.cells #[.int .i64 x283000_2, .bool x283001_2, .int .i64 x283002_2, .int .u64 x283003_2, .int .u64 x283004_2, .bool x283005_2] 86 (0, 0))) ∧ Aside0 (wc.heap[gb283]? = some (.cells #[.int .i64 x284000_2, .bool x284001_2, .int .i64 x284002_2, .int .u64 x284003_2, .int .u64 x284004_2, .bool x284005_2] 86 (0, 0))) ∧ Aside0 (wc.heap[gb284]? = some (.cells #[.int .i64 x285000_2, .bool x285001_2, .int .i64 x285002_2, .int .u64 x285003_2, .int .u64 x285004_2, .bool x285005_2] 86 (0, 0))) ∧ Aside0 (wc.heap[gb285]? = some (.cells #[.int .u64 x283003_2, .int .u64 x283004_2, .int .u64 0, .int .u64 0] 137 (0, 0))) ∧ Aside0 (wc.heap[gb291]? = some (.cells #[.int .u64 t286, .int .u64 t287, .int .u64 t288, .int .u64 t289] 137 (0, 0))) ∧ Aside0 (wc.heap[gb292]? = some (.cells #[.int .i64 1, .bool x283001_2, .int .i64 x283002_2, .int .u64 0, .int .u64 0, .bool false] 86 (0, 0))) ∧ Aside0 (wc.heap[gb293]? = some (.cells #[.int .u64 0, .int .u64 0, .int .u64 0, .int .u64 0] 137 (0, 0))) ∧ Aside0 (Below w.heap.size w wc))
     case first =>
      have H := HC157.out
      clear HC157
      by_cases c158 : t290 = true
      ·subst c158
       rw [if_pos rfl] at H
       have H' := Aside0.mk H
       clear H
       go_wp2
       go_meet
       case rel => exact ⟨_, (1), okT, H', ⟨by have := HJ2.out; first | omega | exact Nat.le_refl _⟩, ⟨bkT BK282⟩, ⟨bkT BK283⟩, ⟨bkT BK284⟩, ⟨bkT BK285⟩, ⟨bkT BK291⟩, ⟨bkT BK292⟩, ⟨bkT BK293⟩, ⟨hbT⟩⟩
      ·replace c158 := Bool.eq_false_iff.mpr c158
       subst c158
       rw [if_neg (show ¬ (false = true) by decide)] at H
       have H' := Aside0.mk H
       clear H
       go_wp2
       go_meet
       case rel => exact ⟨_, (0), okT, H', ⟨by have := HJ2.out; first | omega | exact Nat.le_refl _⟩, ⟨bkT BK282⟩, ⟨bkT BK283⟩, ⟨bkT BK284⟩, ⟨bkT BK285⟩, ⟨bkT BK291⟩, ⟨bkT BK292⟩, ⟨bkT BK293⟩, ⟨hbT⟩⟩
     case rest =>
      clear HC157
      try clear c79b0
      try clear c79b1
      try clear c79b2
      obtain ⟨kq, x13_156, rfl, HA, HJ156, BK282, BK283, BK284, BK285, BK291, BK292, BK293, HB⟩ := hcut
      cases kq with
      | zero => exact absurd HA.out (by simp [broad_Sum.j3])
      | succ kj156 =>
       have H := HA.out
       clear HA
       simp only [broad_Sum.j3] at H
       replace H := Option.bind_eq_some_iff.mp H
       obtain ⟨⟨t305, t306, t307, t308, t309⟩, A1590, H⟩ := H
       try dsimp only at H
       have A159 := Aside0.mk A1590
       clear A1590
       have HC160 := Aside0.mk H
       clear H
       have hnb161 := NB285_282.out
       have hnc161 := NB282_285.out
       have hnb162 := NB285_283.out
       have hnc162 := NB283_285.out
       have hnb163 := NB285_284.out
       have hnc163 := NB284_285.out
       have hnb164 := NB285_291.out
       have hnc164 := NB291_285.out
       have hnb165 := NB285_292.out
       have hnc165 := NB292_285.out
       have hnb166 := NB285_293.out
       have hnc166 := NB293_285.out
       obtain ⟨z167_0, z167_1, z167_2, z167_3, y167_0, y167_1, y167_2, y167_3⟩ := cz4 BK285
       have hnb168 := NB291_282.out
       have hnc168 := NB282_291.out
       have hnb169 := NB291_283.out
       have hnc169 := NB283_291.out
       have hnb170 := NB291_284.out
       have hnc170 := NB284_291.out
       have hnb171 := NB291_292.out
       have hnc171 := NB292_291.out
       have hnb172 := NB291_293.out
       have hnc172 := NB293_291.out
       obtain ⟨z173_0, z173_1, z173_2, z173_3, y173_0, y173_1, y173_2, y173_3⟩ := cz4 BK291
       go_upto_if 113 with (first | ((with_reducible refine gate_callee (f := 103) rfl ?_); refine goA (some 109) Try.func103 (broad_wide_less.calls x283003_2 x283004_2 0 0 t286 t287 t288 t289 x13_156 t305 t306 t307 t308 t309 _ A159.out) ?_; intro w174 hb; replace BK282 := bkB BK282 hb; replace BK283 := bkB BK283 hb; replace BK284 := bkB BK284 hb; replace BK285 := bkB BK285 hb; replace BK291 := bkB BK291 hb; replace BK292 := bkB BK292 hb; replace BK293 := bkB BK293 hb; replace HB := hbS hb; clear hb) | ((with_reducible refine gate_dst (N := 14) rfl ?_); refine boxA 14 (#[.int .u64 0, .int .u64 0, .int .u64 0, .int .u64 0]) 137 ?_; intro gb310 hg w175 BK310 hb; have GW310 := geT hg; have GE310 := GW310; obtain ⟨NB282_310, NB310_282⟩ := neT BK282 hg; obtain ⟨NB283_310, NB310_283⟩ := neT BK283 hg; obtain ⟨NB284_310, NB310_284⟩ := neT BK284 hg; obtain ⟨NB285_310, NB310_285⟩ := neT BK285 hg; obtain ⟨NB291_310, NB310_291⟩ := neT BK291 hg; obtain ⟨NB292_310, NB310_292⟩ := neT BK292 hg; obtain ⟨NB293_310, NB310_293⟩ := neT BK293 hg; replace BK282 := bkB BK282 hb; replace BK283 := bkB BK283 hb; replace BK284 := bkB BK284 hb; replace BK285 := bkB BK285 hb; replace BK291 := bkB BK291 hb; replace BK292 := bkB BK292 hb; replace BK293 := bkB BK293 hb; replace HB := hbS hb; clear hb hg; have hnb176 := NB310_282.out; have hnc176 := NB282_310.out; have hnb177 := NB310_283.out; have hnc177 := NB283_310.out; have hnb178 := NB310_284.out; have hnc178 := NB284_310.out; have hnb179 := NB310_285.out; have hnc179 := NB285_310.out; have hnb180 := NB310_291.out; have hnc180 := NB291_310.out; have hnb181 := NB310_292.out; have hnc181 := NB292_310.out; have hnb182 := NB310_293.out; have hnc182 := NB293_310.out; obtain ⟨z183_0, z183_1, z183_2, z183_3, y183_0, y183_1, y183_2, y183_3⟩ := cz4 BK310))
       (try simp only [Act.put, List.setIfInBounds_toArray, List.set_cons_zero, List.set_cons_succ])
       go_cut [] (fun wc => ∃ (kq : Nat) (x293001_159 : Bool) (x311000_159 : Int) (x311001_159 : Int) (x311002_159 : Int) (x311003_159 : Int), Aside0 (broad_Sum.j4 kq t290 1 x293001_159 x283002_2 0 0 false x311000_159 x311001_159 x311002_159 x311003_159 = some (r1, r2, r3, r4, r5, r6)) ∧ Aside0 (kq ≤ kj156) ∧ Aside0 (wc.heap[gb282]? = some (.cells #[.int .i64 x283000_2, .bool x283001_2, .int .i64 x283002_2, .int .u64 x283003_2, .int .u64 x283004_2, .bool x283005_2] 86 (0, 0))) ∧ Aside0 (wc.heap[gb283]? = some (.cells #[.int .i64 x284000_2, .bool x284001_2, .int .i64 x284002_2, .int .u64 x284003_2, .int .u64 x284004_2, .bool x284005_2] 86 (0, 0))) ∧ Aside0 (wc.heap[gb284]? = some (.cells #[.int .i64 x285000_2, .bool x285001_2, .int .i64 x285002_2, .int .u64 x285003_2, .int .u64 x285004_2, .bool x285005_2] 86 (0, 0))) ∧ Aside0 (wc.heap[gb285]? = some (.cells #[.int .u64 x283003_2, .int .u64 x283004_2, .int .u64 0, .int .u64 0] 137 (0, 0))) ∧ Aside0 (wc.heap[gb291]? = some (.cells #[.int .u64 t286, .int .u64 t287, .int .u64 t288, .int .u64 t289] 137 (0, 0))) ∧ Aside0 (wc.heap[gb292]? = some (.cells #[.int .i64 1, .bool x293001_159, .int .i64 x283002_2, .int .u64 0, .int .u64 0, .bool false] 86 (0, 0))) ∧ Aside0 (wc.heap[gb293]? = some (.cells #[.int .u64 0, .int .u64 0, .int .u64 0, .int .u64 0] 137 (0, 0))) ∧ Aside0 (wc.heap[gb310]? = some (.cells #[.int .u64 x311000_159, .int .u64 x311001_159, .int .u64 x311002_159, .int .u64 x311003_159] 137 (0, 0))) ∧ Aside0 (Below w.heap.size w wc))
       case first =>
        have H := HC160.out
        clear HC160
        by_cases c184 : t309 = 1
        ·rw [if_pos c184] at H
         obtain ⟨c184b0, c184b1⟩ := eqY c184
         clear c184
         (first | rw [c184b0] | (simp only [i64_w, i32_w]; rw [c184b0]) | rw [c184b1] | skip)
         replace H := Option.bind_eq_some_iff.mp H
         obtain ⟨⟨t311, t312, t313, t314, t315⟩, A1850, H⟩ := H
         try dsimp only at H
         have A185 := Aside0.mk A1850
         clear A1850
         have H' := Aside0.mk H
         clear H
         have hnb186 := NB291_282.out
         have hnc186 := NB282_291.out
         have hnb187 := NB291_283.out
         have hnc187 := NB283_291.out
         have hnb188 := NB291_284.out
         have hnc188 := NB284_291.out
         have hnb189 := NB291_285.out
         have hnc189 := NB285_291.out
         have hnb190 := NB291_292.out
         have hnc190 := NB292_291.out
         have hnb191 := NB291_293.out
         have hnc191 := NB293_291.out
         have hnb192 := NB291_310.out
         have hnc192 := NB310_291.out
         obtain ⟨z193_0, z193_1, z193_2, z193_3, y193_0, y193_1, y193_2, y193_3⟩ := cz4 BK291
         have hnb194 := NB285_282.out
         have hnc194 := NB282_285.out
         have hnb195 := NB285_283.out
         have hnc195 := NB283_285.out
         have hnb196 := NB285_284.out
         have hnc196 := NB284_285.out
         have hnb197 := NB285_292.out
         have hnc197 := NB292_285.out
         have hnb198 := NB285_293.out
         have hnc198 := NB293_285.out
         have hnb199 := NB285_310.out
         have hnc199 := NB310_285.out
         obtain ⟨z200_0, z200_1, z200_2, z200_3, y200_0, y200_1, y200_2, y200_3⟩ := cz4 BK285
         go_wp2_with (first | ((with_reducible refine gate_callee (f := 103) rfl ?_); refine goA (some 117) Try.func103 (broad_wide_less.calls t286 t287 t288 t289 x283003_2 x283004_2 0 0 0 t311 t312 t313 t314 t315 _ A185.out) ?_; intro w201 hb; replace BK282 := bkB BK282 hb; replace BK283 := bkB BK283 hb; replace BK284 := bkB BK284 hb; replace BK285 := bkB BK285 hb; replace BK291 := bkB BK291 hb; replace BK292 := bkB BK292 hb; replace BK293 := bkB BK293 hb; replace BK310 := bkB (o := .cells #[.int .u64 t305, .int .u64 t306, .int .u64 t307, .int .u64 t308] 137 (0, 0)) BK310 hb; replace HB := hbS hb; clear hb; have hnb202 := NB310_282.out; have hnc202 := NB282_310.out; have hnb203 := NB310_283.out; have hnc203 := NB283_310.out; have hnb204 := NB310_284.out; have hnc204 := NB284_310.out; have hnb205 := NB310_292.out; have hnc205 := NB292_310.out; have hnb206 := NB310_293.out; have hnc206 := NB293_310.out; obtain ⟨z207_0, z207_1, z207_2, z207_3, y207_0, y207_1, y207_2, y207_3⟩ := cz4 BK310; have hnb208 := NB283_282.out; have hnc208 := NB282_283.out; have hnb209 := NB283_284.out; have hnc209 := NB284_283.out; have hnb210 := NB283_292.out; have hnc210 := NB292_283.out; have hnb211 := NB283_293.out; have hnc211 := NB293_283.out; obtain ⟨z212_0, z212_1, z212_2, z212_3, z212_4, z212_5, y212_0, y212_1, y212_2, y212_3, y212_4, y212_5⟩ := cz6 BK283; have hnb213 := NB292_282.out; have hnc213 := NB282_292.out; have hnb214 := NB292_284.out; have hnc214 := NB284_292.out; have hnb215 := NB292_293.out; have hnc215 := NB293_292.out; obtain ⟨z216_0, z216_1, z216_2, z216_3, z216_4, z216_5, y216_0, y216_1, y216_2, y216_3, y216_4, y216_5⟩ := cz6 BK292))
         go_meet
         case rel => exact ⟨_, (x284001_2), (t311), (t312), (t313), (t314), H', ⟨by have := HJ2.out; have := HJ156.out; first | omega | exact Nat.le_refl _⟩, ⟨bkT BK282⟩, ⟨bkT BK283⟩, ⟨bkT BK284⟩, ⟨bkT BK285⟩, ⟨bkT BK291⟩, ⟨bkT BK292⟩, ⟨bkT BK293⟩, ⟨bkT BK310⟩, ⟨hbT⟩⟩
        ·rw [if_neg c184] at H
         obtain ⟨c184b0, c184b1⟩ := eqN c184
         (first | rw [c184b0] | (simp only [i64_w, i32_w]; rw [c184b0]) | rw [c184b1] | skip)
         have H' := Aside0.mk H
         clear H
         go_wp2
         go_meet
         case rel => exact ⟨_, (x283001_2), (t305), (t306), (t307), (t308), H', ⟨by have := HJ2.out; have := HJ156.out; first | omega | exact Nat.le_refl _⟩, ⟨bkT BK282⟩, ⟨bkT BK283⟩, ⟨bkT BK284⟩, ⟨bkT BK285⟩, ⟨bkT BK291⟩, ⟨bkT BK292⟩, ⟨bkT BK293⟩, ⟨bkT BK310⟩, ⟨hbT⟩⟩
       case rest =>
        clear HC160
        try clear z167_0 z167_1 z167_2 z167_3 y167_0 y167_1 y167_2 y167_3
        try clear z173_0 z173_1 z173_2 z173_3 y173_0 y173_1 y173_2 y173_3
        try clear z183_0 z183_1 z183_2 z183_3 y183_0 y183_1 y183_2 y183_3
        obtain ⟨kq, x293001_159, x311000_159, x311001_159, x311002_159, x311003_159, HA, HJ159, BK282, BK283, BK284, BK285, BK291, BK292, BK293, BK310, HB⟩ := hcut
        cases kq with
        | zero => exact absurd HA.out (by simp [broad_Sum.j4])
        | succ kj159 =>
         have H := HA.out
         clear HA
         simp only [broad_Sum.j4] at H
         by_cases c217 : (x311000_159 == 0 && (x311001_159 == 0 && (x311002_159 == 0 && (x311003_159 == 0)))) = true
         ·rw [if_pos c217] at H
          have c217b0 : (x311000_159 == 0 && (x311001_159 == 0 && (x311002_159 == 0 && (x311003_159 == 0)))) = true := c217
          (try (have c217b1 : decide (x311000_159 = 0 && (x311001_159 == 0 && (x311002_159 == 0 && (x311003_159 == 0)))) = true := by simpa using c217))
          (try (have c217b2 : (x311000_159 == 0 && (x311001_159 == 0 && (x311002_159 == 0 && (x311003_159 == 0)))) = true := by simpa using c217))
          clear c217
          simp only [Option.some.injEq, Prod.mk.injEq] at H
          obtain ⟨rfl, rfl, rfl, rfl, rfl, rfl⟩ := H
          have hnb218 := NB310_282.out
          have hnc218 := NB282_310.out
          have hnb219 := NB310_283.out
          have hnc219 := NB283_310.out
          have hnb220 := NB310_284.out
          have hnc220 := NB284_310.out
          have hnb221 := NB310_285.out
          have hnc221 := NB285_310.out
          have hnb222 := NB310_291.out
          have hnc222 := NB291_310.out
          have hnb223 := NB310_292.out
          have hnc223 := NB292_310.out
          have hnb224 := NB310_293.out
          have hnc224 := NB293_310.out
          obtain ⟨z225_0, z225_1, z225_2, z225_3, y225_0, y225_1, y225_2, y225_3⟩ := cz4 BK310
          have hnb226 := NB284_282.out
          have hnc226 := NB282_284.out
          have hnb227 := NB284_283.out
          have hnc227 := NB283_284.out
          have hnb228 := NB284_285.out
          have hnc228 := NB285_284.out
          have hnb229 := NB284_291.out
          have hnc229 := NB291_284.out
          have hnb230 := NB284_292.out
          have hnc230 := NB292_284.out
          have hnb231 := NB284_293.out
          have hnc231 := NB293_284.out
          obtain ⟨z232_0, z232_1, z232_2, z232_3, z232_4, z232_5, y232_0, y232_1, y232_2, y232_3, y232_4, y232_5⟩ := cz6 BK284
          go_wp2
          refine bodyPost_ret (results_cell_row rfl _ _ gb284 86 #[.int .i64 0, .bool false, .int .i64 0, .int .u64 0, .int .u64 0, .bool false] (0, 0) _ rfl (bkT BK284) Try.underlying86 rfl (by kernel_rfl)) rfl ?_
          exact ⟨reT, hbT⟩
         ·rw [if_neg c217] at H
          have c217b0 : (x311000_159 == 0 && (x311001_159 == 0 && (x311002_159 == 0 && (x311003_159 == 0)))) = false := by simpa using c217
          (try (have c217b1 : decide (x311000_159 = 0 && (x311001_159 == 0 && (x311002_159 == 0 && (x311003_159 == 0)))) = false := by simpa using c217))
          (try (have c217b2 : (x311000_159 == 0 && (x311001_159 == 0 && (x311002_159 == 0 && (x311003_159 == 0)))) = false := by simpa using c217))
          (try (have c217b3 : ¬ (x311000_159 = 0 && (x311001_159 == 0 && (x311002_159 == 0 && (x311003_159 == 0)))) := by simpa using c217))
          clear c217
          replace H := Option.bind_eq_some_iff.mp H
          obtain ⟨⟨t316, t317, t318, t319, t320⟩, A2330, H⟩ := H
          try dsimp only at H
          have A233 := Aside0.mk A2330
          clear A2330
          have H' := Aside0.mk H
          clear H
          have hnb234 := NB310_282.out
          have hnc234 := NB282_310.out
          have hnb235 := NB310_283.out
          have hnc235 := NB283_310.out
          have hnb236 := NB310_284.out
          have hnc236 := NB284_310.out
          have hnb237 := NB310_285.out
          have hnc237 := NB285_310.out
          have hnb238 := NB310_291.out
          have hnc238 := NB291_310.out
          have hnb239 := NB310_292.out
          have hnc239 := NB292_310.out
          have hnb240 := NB310_293.out
          have hnc240 := NB293_310.out
          obtain ⟨z241_0, z241_1, z241_2, z241_3, y241_0, y241_1, y241_2, y241_3⟩ := cz4 BK310
          go_wp2_with (first | ((with_reducible refine gate_callee (f := 104) rfl ?_); refine goA (some 129) Try.func104 (broad_wide_raised.calls x311000_159 x311001_159 x311002_159 x311003_159 t316 t317 t318 t319 t320 _ A233.out) ?_; intro w242 hb; replace BK282 := bkB BK282 hb; replace BK283 := bkB BK283 hb; replace BK284 := bkB BK284 hb; replace BK285 := bkB BK285 hb; replace BK291 := bkB BK291 hb; replace BK292 := bkB BK292 hb; replace BK293 := bkB BK293 hb; replace BK310 := bkB BK310 hb; replace HB := hbS hb; clear hb; have hnb243 := NB293_282.out; have hnc243 := NB282_293.out; have hnb244 := NB293_283.out; have hnc244 := NB283_293.out; have hnb245 := NB293_284.out; have hnc245 := NB284_293.out; have hnb246 := NB293_285.out; have hnc246 := NB285_293.out; have hnb247 := NB293_291.out; have hnc247 := NB291_293.out; have hnb248 := NB293_292.out; have hnc248 := NB292_293.out; obtain ⟨z249_0, z249_1, z249_2, z249_3, y249_0, y249_1, y249_2, y249_3⟩ := cz4 BK293; have hnb250 := NB292_282.out; have hnc250 := NB282_292.out; have hnb251 := NB292_283.out; have hnc251 := NB283_292.out; have hnb252 := NB292_284.out; have hnc252 := NB284_292.out; have hnb253 := NB292_285.out; have hnc253 := NB285_292.out; have hnb254 := NB292_291.out; have hnc254 := NB291_292.out; obtain ⟨z255_0, z255_1, z255_2, z255_3, z255_4, z255_5, y255_0, y255_1, y255_2, y255_3, y255_4, y255_5⟩ := cz6 BK292))
          go_meet
          case rel => exact ⟨_, (t290), (x285000_2), (x285001_2), (x285002_2), (x285003_2), (x285004_2), (x285005_2), (x293001_159), (wrap64 (x283002_2 - t320)), (t316), (t317), (t318), (t319), okT, H', ⟨by have := HJ2.out; have := HJ156.out; have := HJ159.out; first | omega | exact Nat.le_refl _⟩, ⟨bkT BK282⟩, ⟨bkT BK283⟩, ⟨bkT BK284⟩, ⟨bkT BK285⟩, ⟨bkT BK291⟩, ⟨bkT BK292⟩, ⟨bkT BK293⟩, ⟨hbT⟩⟩
   case rest =>
    clear HC47
    obtain ⟨kq, x7_46, x285000_46, x285001_46, x285002_46, x285003_46, x285004_46, x285005_46, x293001_46, x293002_46, x294000_46, x294001_46, x294002_46, x294003_46, rfl, HA, HJ46, BK282, BK283, BK284, BK285, BK291, BK292, BK293, HB⟩ := hcut
    cases kq with
    | zero => exact absurd HA.out (by simp [broad_Sum.j5])
    | succ kj46 =>
     have H := HA.out
     clear HA
     simp only [broad_Sum.j5] at H
     have HC256 := Aside0.mk H
     clear H
     try go_wp2
     have n0_ := Aside0.mk (blk_drew BK282.out)
     have n1_ := Aside0.mk (blk_drew BK283.out)
     have n2_ := Aside0.mk (blk_drew BK284.out)
     have n3_ := Aside0.mk (blk_drew BK285.out)
     have n4_ := Aside0.mk (blk_drew BK291.out)
     have n5_ := Aside0.mk (blk_drew BK292.out)
     have n6_ := Aside0.mk (blk_drew BK293.out)
     have n7_ := Aside0.mk (below_drew1 HB.out)
     clear BK282
     clear BK283
     clear BK284
     clear BK285
     clear BK291
     clear BK292
     clear BK293
     clear HB
     have BK282 := n0_
     have BK283 := n1_
     have BK284 := n2_
     have BK285 := n3_
     have BK291 := n4_
     have BK292 := n5_
     have BK293 := n6_
     have HB := n7_
     clear n0_ n1_ n2_ n3_ n4_ n5_ n6_ n7_
     refine start_ (n := 8) (S := fun w' => w'.cell? ⟨gb293, 0, none⟩ = some (.int .u64 x294000_46) ∧ w'.cell? ⟨gb293, 1, none⟩ = some (.int .u64 x294001_46) ∧ w'.cell? ⟨gb293, 2, none⟩ = some (.int .u64 x294002_46) ∧ w'.cell? ⟨gb293, 3, none⟩ = some (.int .u64 x294003_46)) (ds := []) #[false, false, false, false, false, false, false, false] (by kernel_rfl) rfl rfl ⟨(blk_cell BK293.out 0).trans rfl, (blk_cell BK293.out 1).trans rfl, (blk_cell BK293.out 2).trans rfl, (blk_cell BK293.out 3).trans rfl⟩ (fun hHeld => ?_); refine with_tabW broad_Sum.tab34 broad_Sum.bits34 (fun HT_ HW_ => ?_)
     generalize wc.drew = w257 at BK282 BK283 BK284 BK285 BK291 BK292 BK293 HB hHeld ⊢
     refine pure_ (i := 0) (N := some 137) (v := ?_) (a' := ?_) #[true, false, false, false, false, false, false, false] rfl rfl (any_of HT_.out (by kernel_rfl)) (fun _ _ _ h => h) (Or.inl ⟨by rfl, ?_⟩) ?_ ?_
     rotate_left
     ·intro w'
      go_simp
      with_reducible rfl
     rotate_left
     ·simp only [Act.put, List.setIfInBounds_toArray, List.set_cons_zero, List.set_cons_succ, i64_w, i32_w]
      rfl
     refine pure_ (i := 2) (N := some 139) (v := ?_) (a' := ?_) #[true, false, true, false, false, false, false, false] rfl rfl (any_of HT_.out (by kernel_rfl)) (fun _ _ _ h => h) (Or.inl ⟨by rfl, ?_⟩) ?_ ?_
     rotate_left
     ·intro w'
      go_simp
      with_reducible rfl
     rotate_left
     ·simp only [Act.put, List.setIfInBounds_toArray, List.set_cons_zero, List.set_cons_succ, i64_w, i32_w]
      rfl
     refine take_ (i := 1) (N := some 138) (v := ?_) (a' := ?_) #[true, true, true, false, false, false, false, false] rfl rfl (take_ofW HT_.out HW_.out (by kernel_rfl)) (fun _ _ _ h => h) (Or.inl ⟨by rfl, ?_⟩) hHeld ?_ ?_
     rotate_left
     ·rintro w' ⟨s0, s1, s2, s3⟩
      go_simp
      with_reducible rfl
     rotate_left
     ·simp only [Act.put, List.setIfInBounds_toArray, List.set_cons_zero, List.set_cons_succ, i64_w, i32_w]
      rfl
     refine pure_ (i := 4) (N := some 141) (v := ?_) (a' := ?_) #[true, true, true, false, true, false, false, false] rfl rfl (any_of HT_.out (by kernel_rfl)) (fun _ _ _ h => h) (Or.inl ⟨by rfl, ?_⟩) ?_ ?_
     rotate_left
     ·intro w'
      go_simp
      with_reducible rfl
     rotate_left
     ·simp only [Act.put, List.setIfInBounds_toArray, List.set_cons_zero, List.set_cons_succ, i64_w, i32_w]
      rfl
     refine take_ (i := 3) (N := some 140) (v := ?_) (a' := ?_) #[true, true, true, true, true, false, false, false] rfl rfl (take_ofW HT_.out HW_.out (by kernel_rfl)) (fun _ _ _ h => h) (Or.inl ⟨by rfl, ?_⟩) hHeld ?_ ?_
     rotate_left
     ·rintro w' ⟨s0, s1, s2, s3⟩
      go_simp
      with_reducible rfl
     rotate_left
     ·simp only [Act.put, List.setIfInBounds_toArray, List.set_cons_zero, List.set_cons_succ, i64_w, i32_w]
      rfl
     refine one_ (i := 5) (N := none) #[true, true, true, true, true, true, false, false] rfl rfl (one_of HT_.out (by kernel_rfl)) (by decide) (fun K hK => ?_)
     have hs258 : w257.cell? ⟨gb292, 3, none⟩ = some (.int .u64 0) := (blk_cell BK292.out 3).trans rfl
     have hfs258 := blk_frozen BK292.out 3
     have hns258_0 := NB282_292.out
     have hns258_1 := NB283_292.out
     have hns258_2 := NB284_292.out
     have hns258_3 := NB285_292.out
     have hns258_4 := NB291_292.out
     have hns258_6 := NB293_292.out
     have hms258_0 := NB292_282.out
     have hms258_1 := NB292_283.out
     have hms258_2 := NB292_284.out
     have hms258_3 := NB292_285.out
     have hms258_4 := NB292_291.out
     have hms258_6 := NB292_293.out
     refine skip_ (w1 := ?_) (by rfl) rfl ?_ ?_
     rotate_left
     ·go_simp
      rfl
     refine hK.out _ _ ⟨((cell_far (p := ⟨gb292, _, none⟩) NB293_292.out _).trans (hHeld.1)), ((cell_far (p := ⟨gb292, _, none⟩) NB293_292.out _).trans (hHeld.2.1)), ((cell_far (p := ⟨gb292, _, none⟩) NB293_292.out _).trans (hHeld.2.2.1)), ((cell_far (p := ⟨gb292, _, none⟩) NB293_292.out _).trans (hHeld.2.2.2))⟩ (fun hHeld => ?_)
     clear hK K
     refine pure_ (i := 6) (N := some 142) (v := ?_) (a' := ?_) #[true, true, true, true, true, true, true, false] rfl rfl (any_of HT_.out (by kernel_rfl)) (fun _ _ _ h => h) (Or.inl ⟨by rfl, ?_⟩) ?_ ?_
     rotate_left
     ·intro w'
      go_simp
      with_reducible rfl
     rotate_left
     ·simp only [Act.put, List.setIfInBounds_toArray, List.set_cons_zero, List.set_cons_succ, i64_w, i32_w]
      rfl
     refine one_ (i := 7) (N := none) #[true, true, true, true, true, true, true, true] rfl rfl (one_of HT_.out (by kernel_rfl)) (by decide) (fun K hK => ?_)
     have hs259 : w257.cell? ⟨gb292, 4, none⟩ = some (.int .u64 0) := (blk_cell BK292.out 4).trans rfl
     have hfs259 := blk_frozen BK292.out 4
     have hns259_0 := NB282_292.out
     have hns259_1 := NB283_292.out
     have hns259_2 := NB284_292.out
     have hns259_3 := NB285_292.out
     have hns259_4 := NB291_292.out
     have hns259_6 := NB293_292.out
     have hms259_0 := NB292_282.out
     have hms259_1 := NB292_283.out
     have hms259_2 := NB292_284.out
     have hms259_3 := NB292_285.out
     have hms259_4 := NB292_291.out
     have hms259_6 := NB292_293.out
     refine skip_ (w1 := ?_) (by rfl) rfl ?_ ?_
     rotate_left
     ·go_simp
      rfl
     refine hK.out _ _ ⟨((cell_far (p := ⟨gb292, _, none⟩) NB293_292.out _).trans (hHeld.1)), ((cell_far (p := ⟨gb292, _, none⟩) NB293_292.out _).trans (hHeld.2.1)), ((cell_far (p := ⟨gb292, _, none⟩) NB293_292.out _).trans (hHeld.2.2.1)), ((cell_far (p := ⟨gb292, _, none⟩) NB293_292.out _).trans (hHeld.2.2.2))⟩ (fun hHeld => ?_)
     clear hK K
     refine done_ (done_of HT_.out (by kernel_rfl)) ?_
     go_upto_region 35 with (fail)
     go_cut [] (fun wc => ∃ (kq : Nat) (x293005_255 : Bool), Aside0 (broad_Sum.j6 kq 1 x293001_46 x293002_46 x294000_46 x294001_46 x293005_255 = some (r1, r2, r3, r4, r5, r6)) ∧ Aside0 (kq ≤ kj46) ∧ Aside0 (wc.heap[gb282]? = some (.cells #[.int .i64 x283000_2, .bool x283001_2, .int .i64 x283002_2, .int .u64 x283003_2, .int .u64 x283004_2, .bool x283005_2] 86 (0, 0))) ∧ Aside0 (wc.heap[gb283]? = some (.cells #[.int .i64 x284000_2, .bool x284001_2, .int .i64 x284002_2, .int .u64 x284003_2, .int .u64 x284004_2, .bool x284005_2] 86 (0, 0))) ∧ Aside0 (wc.heap[gb284]? = some (.cells #[.int .i64 x285000_46, .bool x285001_46, .int .i64 x285002_46, .int .u64 x285003_46, .int .u64 x285004_46, .bool x285005_46] 86 (0, 0))) ∧ Aside0 (wc.heap[gb285]? = some (.cells #[.int .u64 x283003_2, .int .u64 x283004_2, .int .u64 0, .int .u64 0] 137 (0, 0))) ∧ Aside0 (wc.heap[gb291]? = some (.cells #[.int .u64 t286, .int .u64 t287, .int .u64 t288, .int .u64 t289] 137 (0, 0))) ∧ Aside0 (wc.heap[gb292]? = some (.cells #[.int .i64 1, .bool x293001_46, .int .i64 x293002_46, .int .u64 x294000_46, .int .u64 x294001_46, .bool x293005_255] 86 (0, 0))) ∧ Aside0 (wc.heap[gb293]? = some (.cells #[.int .u64 x294000_46, .int .u64 x294001_46, .int .u64 x294002_46, .int .u64 x294003_46] 137 (0, 0))) ∧ Aside0 (Below w.heap.size w wc))
     case first =>
      have H := HC256.out
      clear HC256
      by_cases c260 : x7_46 = true
      ·subst c260
       rw [if_pos rfl] at H
       have H' := Aside0.mk H
       clear H
       have hnb261 := NB292_282.out
       have hnc261 := NB282_292.out
       have hnb262 := NB292_283.out
       have hnc262 := NB283_292.out
       have hnb263 := NB292_284.out
       have hnc263 := NB284_292.out
       have hnb264 := NB292_285.out
       have hnc264 := NB285_292.out
       have hnb265 := NB292_291.out
       have hnc265 := NB291_292.out
       have hnb266 := NB292_293.out
       have hnc266 := NB293_292.out
       obtain ⟨z267_0, z267_1, z267_2, z267_3, z267_4, z267_5, y267_0, y267_1, y267_2, y267_3, y267_4, y267_5⟩ := cz6 BK292
       go_wp2
       go_meet
       case rel => exact ⟨_, (true), H', ⟨by have := HJ2.out; have := HJ46.out; first | omega | exact Nat.le_refl _⟩, ⟨bkT BK282⟩, ⟨bkT BK283⟩, ⟨bkT BK284⟩, ⟨bkT BK285⟩, ⟨bkT BK291⟩, ⟨bkT BK292⟩, ⟨bkT BK293⟩, ⟨hbT⟩⟩
      ·replace c260 := Bool.eq_false_iff.mpr c260
       subst c260
       rw [if_neg (show ¬ (false = true) by decide)] at H
       by_cases c268 : x294002_46 = 0
       ·rw [if_pos c268] at H
        obtain ⟨c268b0, c268b1⟩ := eqY c268
        clear c268
        (first | rw [c268b0] | (simp only [i64_w, i32_w]; rw [c268b0]) | rw [c268b1] | skip)
        have H' := Aside0.mk H
        clear H
        have hnb269 := NB293_282.out
        have hnc269 := NB282_293.out
        have hnb270 := NB293_283.out
        have hnc270 := NB283_293.out
        have hnb271 := NB293_284.out
        have hnc271 := NB284_293.out
        have hnb272 := NB293_285.out
        have hnc272 := NB285_293.out
        have hnb273 := NB293_291.out
        have hnc273 := NB291_293.out
        have hnb274 := NB293_292.out
        have hnc274 := NB292_293.out
        obtain ⟨z275_0, z275_1, z275_2, z275_3, y275_0, y275_1, y275_2, y275_3⟩ := cz4 BK293
        have hnb276 := NB292_282.out
        have hnc276 := NB282_292.out
        have hnb277 := NB292_283.out
        have hnc277 := NB283_292.out
        have hnb278 := NB292_284.out
        have hnc278 := NB284_292.out
        have hnb279 := NB292_285.out
        have hnc279 := NB285_292.out
        have hnb280 := NB292_291.out
        have hnc280 := NB291_292.out
        obtain ⟨z281_0, z281_1, z281_2, z281_3, z281_4, z281_5, y281_0, y281_1, y281_2, y281_3, y281_4, y281_5⟩ := cz6 BK292
        go_wp2
        go_meet
        case rel => exact ⟨_, ((x294003_46 != 0)), H', ⟨by have := HJ2.out; have := HJ46.out; first | omega | exact Nat.le_refl _⟩, ⟨bkT BK282⟩, ⟨bkT BK283⟩, ⟨bkT BK284⟩, ⟨bkT BK285⟩, ⟨bkT BK291⟩, ⟨bkT BK292⟩, ⟨bkT BK293⟩, ⟨hbT⟩⟩
       ·rw [if_neg c268] at H
        obtain ⟨c268b0, c268b1⟩ := eqN c268
        (first | rw [c268b0] | (simp only [i64_w, i32_w]; rw [c268b0]) | rw [c268b1] | skip)
        have H' := Aside0.mk H
        clear H
        have hnb282 := NB293_282.out
        have hnc282 := NB282_293.out
        have hnb283 := NB293_283.out
        have hnc283 := NB283_293.out
        have hnb284 := NB293_284.out
        have hnc284 := NB284_293.out
        have hnb285 := NB293_285.out
        have hnc285 := NB285_293.out
        have hnb286 := NB293_291.out
        have hnc286 := NB291_293.out
        have hnb287 := NB293_292.out
        have hnc287 := NB292_293.out
        obtain ⟨z288_0, z288_1, z288_2, z288_3, y288_0, y288_1, y288_2, y288_3⟩ := cz4 BK293
        have hnb289 := NB292_282.out
        have hnc289 := NB282_292.out
        have hnb290 := NB292_283.out
        have hnc290 := NB283_292.out
        have hnb291 := NB292_284.out
        have hnc291 := NB284_292.out
        have hnb292 := NB292_285.out
        have hnc292 := NB285_292.out
        have hnb293 := NB292_291.out
        have hnc293 := NB291_292.out
        obtain ⟨z294_0, z294_1, z294_2, z294_3, z294_4, z294_5, y294_0, y294_1, y294_2, y294_3, y294_4, y294_5⟩ := cz6 BK292
        go_wp2
        go_meet
        case rel => exact ⟨_, (true), H', ⟨by have := HJ2.out; have := HJ46.out; first | omega | exact Nat.le_refl _⟩, ⟨bkT BK282⟩, ⟨bkT BK283⟩, ⟨bkT BK284⟩, ⟨bkT BK285⟩, ⟨bkT BK291⟩, ⟨bkT BK292⟩, ⟨bkT BK293⟩, ⟨hbT⟩⟩
     case rest =>
      clear HC256
      obtain ⟨kq, x293005_255, HA, HJ255, BK282, BK283, BK284, BK285, BK291, BK292, BK293, HB⟩ := hcut
      cases kq with
      | zero => exact absurd HA.out (by simp [broad_Sum.j6])
      | succ kj255 =>
       have H := HA.out
       clear HA
       simp only [broad_Sum.j6] at H
       obtain ⟨ji295, hji295⟩ : ∃ j_ : Int, (mn x293002_46 1099511627776) = j_ := ⟨_, rfl⟩
       replace H : (some (1, x293001_46, mx (-1099511627776) (ji295), x294000_46, x294001_46, x293005_255)) = some (r1, r2, r3, r4, r5, r6) := by first | (rw [hji295] at H; exact H) | (simp only [hji295] at H ⊢; exact H)
       have hji295_ : (if 1099511627776 < x293002_46 then 1099511627776 else x293002_46) = ji295 := hji295
       obtain ⟨ji296, hji296⟩ : ∃ j_ : Int, (mx (-1099511627776) (ji295)) = j_ := ⟨_, rfl⟩
       replace H : (some (1, x293001_46, ji296, x294000_46, x294001_46, x293005_255)) = some (r1, r2, r3, r4, r5, r6) := by first | (rw [hji296] at H; exact H) | (simp only [hji296] at H ⊢; exact H)
       have hji296_ : (if (-1099511627776) < (ji295) then (ji295) else (-1099511627776)) = ji296 := hji296
       simp only [Option.some.injEq, Prod.mk.injEq] at H
       obtain ⟨rfl, rfl, rfl, rfl, rfl, rfl⟩ := H
       have hnb297 := NB292_282.out
       have hnc297 := NB282_292.out
       have hnb298 := NB292_283.out
       have hnc298 := NB283_292.out
       have hnb299 := NB292_284.out
       have hnc299 := NB284_292.out
       have hnb300 := NB292_285.out
       have hnc300 := NB285_292.out
       have hnb301 := NB292_291.out
       have hnc301 := NB291_292.out
       have hnb302 := NB292_293.out
       have hnc302 := NB293_292.out
       obtain ⟨z303_0, z303_1, z303_2, z303_3, z303_4, z303_5, y303_0, y303_1, y303_2, y303_3, y303_4, y303_5⟩ := cz6 BK292
       have hnb304 := NB284_282.out
       have hnc304 := NB282_284.out
       have hnb305 := NB284_283.out
       have hnc305 := NB283_284.out
       have hnb306 := NB284_285.out
       have hnc306 := NB285_284.out
       have hnb307 := NB284_291.out
       have hnc307 := NB291_284.out
       have hnb308 := NB284_293.out
       have hnc308 := NB293_284.out
       obtain ⟨z309_0, z309_1, z309_2, z309_3, z309_4, z309_5, y309_0, y309_1, y309_2, y309_3, y309_4, y309_5⟩ := cz6 BK284
       go_wp2
       refine bodyPost_ret (results_cell_row rfl _ _ gb284 86 #[.int .i64 1, .bool x293001_46, .int .i64 ji296, .int .u64 x294000_46, .int .u64 x294001_46, .bool x293005_255] (0, 0) _ rfl (bkT BK284) Try.underlying86 rfl (by kernel_rfl)) rfl ?_
       exact ⟨by first | rfl | (simp [errW_none, errW_some] <;> rfl) | (simp only [← hji295, ← hji296]; first | rfl | (simp [errW_none, errW_some] <;> rfl)) | (simp [*, errW_none, errW_some] <;> rfl), hbT⟩
end Go.Proofs.Ytnlbfomlfhigcaa.Q
