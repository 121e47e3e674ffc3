/- Walks and plain laws that the claim stands on: each theorem named calls says that a call of a function returns what its f computes; the others are plain laws of these f, and the words that the walks use. -/
import Derived.Test.YtnlbfomlfhigcaaFuseExactsV2
import Derived.Test.YtnlbfomlfhigcaaFuseExactsV14
import Derived.Test.YtnlbfomlfhigcaaFuseExactsV15
import Derived.Test.YtnlbfomlfhigcaaFuseExactsV17
import Derived.Test.YtnlbfomlfhigcaaFuseExactsV18
namespace Go.Proofs.Ytnlbfomlfhigcaa.Q
open Go.RowKit Go.Proofs.YtnlbfomlfhigcaaW.PrintWords Go.Proofs.YtnlbfomlfhigcaaW.PrintLast Go.Proofs.YtnlbfomlfhigcaaW.PrintMore
attribute [local go_sem] max2_int min2_int max_two min_two max_three min_three max_four min_four
set_option linter.unusedVariables false
set_option linter.unusedSimpArgs false
mutual
def vernierref09_Sum.j0 : Nat → Bool → Int → Bool → Int → Int → Int → Bool → Int → Bool → Int → Int → Int → Bool → Option (Int × Bool × Int × Int × Int × Bool)
 | 0, _, _, _, _, _, _, _, _, _, _, _, _, _ => none
 | k + 1, x9, x834000, x834001, x834002, x834003, x834004, x834005, x835000, x835001, x835002, x835003, x835004, x835005 => if x9 = true then (some (2, false, 0, 0, 0, false)) else (if x834000 = 0 then (some (x835000, x835001, x835002, x835003, x835004, x835005)) else (if x835000 = 0 then (some (x834000, x834001, x834002, x834003, x834004, x834005)) else (if x834002 < x835002 then ((vernierref09_Sum.f k x835000 x835001 x835002 x835003 x835004 x835005 x834000 x834001 x834002 x834003 x834004 x834005).bind fun bt836 => (some (bt836.1, bt836.2.1, bt836.2.2.1, bt836.2.2.2.1, bt836.2.2.2.2.1, bt836.2.2.2.2.2))) else ((vernierref02_Of.f k x834003 x834004).bind fun t842 => ((vernierref02_Of.f k x835003 x835004).bind fun t845 => (if (wrap64 (x834002 - x835002)) > 400 then (vernierref09_Sum.j1 k t842 (([1] : List Int)) 400 x834000 x834001 x834002 x834003 x834004 x834005 x835000 x835001 x835002 x835003 x835004 x835005) else (vernierref09_Sum.j1 k t842 t845 (wrap64 (x834002 - x835002)) x834000 x834001 x834002 x834003 x834004 x834005 x835000 x835001 x835002 x835003 x835004 x835005)))))))
def vernierref09_Sum.j1 : Nat → List Int → List Int → Int → Int → Bool → Int → Int → Int → Bool → Int → Bool → Int → Int → Int → Bool → Option (Int × Bool × Int × Int × Int × Bool)
 | 0, _, _, _, _, _, _, _, _, _, _, _, _, _, _, _ => none
 | k + 1, x5, x6, x7, x834000, x834001, x834002, x834003, x834004, x834005, x835000, x835001, x835002, x835003, x835004, x835005 => (vernierref04_Shl.f k x5 x7).bind fun t851 => (if (x834001 == x835001) = true then ((vernierref04_Add.f k t851 x6).bind fun t854 => ((vernierref07_Exactly.f k x834001 t854 (wrap64 ((wrap64 (x834002 - 127)) - x7)) false).bind fun bt857 => (some (bt857.1, bt857.2.1, bt857.2.2.1, bt857.2.2.2.1, bt857.2.2.2.2.1, bt857.2.2.2.2.2)))) else ((vernierref04_Cmp.f k t851 x6).bind fun t863 => (if t863 ≥ 0 then ((vernierref04_Sub.f k t851 x6).bind fun t864 => ((vernierref07_Exactly.f k x834001 t864 (wrap64 ((wrap64 (x834002 - 127)) - x7)) false).bind fun bt867 => (some (bt867.1, bt867.2.1, bt867.2.2.1, bt867.2.2.2.1, bt867.2.2.2.2.1, bt867.2.2.2.2.2)))) else ((vernierref04_Sub.f k x6 t851).bind fun t873 => ((vernierref07_Exactly.f k x835001 t873 (wrap64 ((wrap64 (x834002 - 127)) - x7)) false).bind fun bt876 => (some (bt876.1, bt876.2.1, bt876.2.2.1, bt876.2.2.2.1, bt876.2.2.2.2.1, bt876.2.2.2.2.2)))))))
def vernierref09_Sum.f : Nat → Int → Bool → Int → Int → Int → Bool → Int → Bool → Int → Int → Int → Bool → Option (Int × Bool × Int × Int × Int × Bool)
 | 0, _, _, _, _, _, _, _, _, _, _, _, _ => none
 | k + 1, a0_0, a0_1, a0_2, a0_3, a0_4, a0_5, a1_0, a1_1, a1_2, a1_3, a1_4, a1_5 => if a0_0 = 2 then (vernierref09_Sum.j0 k true a0_0 a0_1 a0_2 a0_3 a0_4 a0_5 a1_0 a1_1 a1_2 a1_3 a1_4 a1_5) else (vernierref09_Sum.j0 k (a1_0 == 2) a0_0 a0_1 a0_2 a0_3 a0_4 a0_5 a1_0 a1_1 a1_2 a1_3 a1_4 a1_5)
end
def vernierref09_Sum.T18 : Bool × List (List Nat × List Nat) := (true, [([], []), ([0], [0]), ([], []), ([], []), ([2, 3], [2, 3]), ([], []), ([1, 4, 5, 4], [1, 4, 5]), ([6, 6, 0, 1, 2, 3, 4, 5, 6], [6])])
def vernierref09_Sum.B18 : List Nat := [0, 1, 0, 0, 12, 0, 63, 127]
theorem vernierref09_Sum.tab18 : rtab .any (opsOf Try.f93 18) = vernierref09_Sum.T18 := by kernel_rfl
theorem vernierref09_Sum.bits18 : waitsOk vernierref09_Sum.T18.2 vernierref09_Sum.B18 = true := by kernel_rfl
def vernierref09_Sum.T20 : Bool × List (List Nat × List Nat) := (true, [([], []), ([0], [0]), ([], []), ([], []), ([2, 3], [2, 3]), ([], []), ([1, 4, 5, 4], [1, 4, 5]), ([6, 6, 0, 1, 2, 3, 4, 5, 6], [6])])
def vernierref09_Sum.B20 : List Nat := [0, 1, 0, 0, 12, 0, 63, 127]
theorem vernierref09_Sum.tab20 : rtab .any (opsOf Try.f93 20) = vernierref09_Sum.T20 := by kernel_rfl
theorem vernierref09_Sum.bits20 : waitsOk vernierref09_Sum.T20.2 vernierref09_Sum.B20 = true := by kernel_rfl
def vernierref09_Sum.T21 : Bool × List (List Nat × List Nat) := (true, [([], []), ([0], [0]), ([], []), ([], []), ([2, 3], [2, 3]), ([], []), ([1, 4, 5, 4], [1, 4, 5]), ([6, 6, 0, 1, 2, 3, 4, 5, 6], [6])])
def vernierref09_Sum.B21 : List Nat := [0, 1, 0, 0, 12, 0, 63, 127]
theorem vernierref09_Sum.tab21 : rtab .any (opsOf Try.f93 21) = vernierref09_Sum.T21 := by kernel_rfl
theorem vernierref09_Sum.bits21 : waitsOk vernierref09_Sum.T21.2 vernierref09_Sum.B21 = true := by kernel_rfl
set_option maxHeartbeats 8000000 in
set_option maxRecDepth 100000 in
theorem vernierref09_Sum.calls (k : Nat) : ∀ (a0_0 : Int) (a0_1 : Bool) (a0_2 : Int) (a0_3 : Int) (a0_4 : Int) (a0_5 : Bool) (a1_0 : Int) (a1_1 : Bool) (a1_2 : Int) (a1_3 : Int) (a1_4 : Int) (a1_5 : Bool) (r1 : Int) (r2 : Bool) (r3 : Int) (r4 : Int) (r5 : Int) (r6 : Bool) (w : World) (h : vernierref09_Sum.f k a0_0 a0_1 a0_2 a0_3 a0_4 a0_5 a1_0 a1_1 a1_2 a1_3 a1_4 a1_5 = some (r1, r2, r3, r4, r5, r6)),
  Calls Try.prog 93 #[.agg #[.int .i64 a0_0, .bool a0_1, .int .i64 a0_2, .int .u64 a0_3, .int .u64 a0_4, .bool a0_5], .agg #[.int .i64 a1_0, .bool a1_1, .int .i64 a1_2, .int .u64 a1_3, .int .u64 a1_4, .bool a1_5]] w fun e w' => e = .returned (.agg #[.int .i64 r1, .bool r2, .int .i64 r3, .int .u64 r4, .int .u64 r5, .bool r6]) ∧ Below w.heap.size w w' := by
 induction k using Nat.strongRecOn with
 | _ k ih =>
 intro a0_0 a0_1 a0_2 a0_3 a0_4 a0_5 a1_0 a1_1 a1_2 a1_3 a1_4 a1_5 r1 r2 r3 r4 r5 r6 w h
 cases k with
 | zero => exact absurd h (by simp [vernierref09_Sum.f])
 | succ k =>
 simp only [vernierref09_Sum.f] at h
 have hu86 := Try.underlying86
 have hu155 := Try.underlying155
 have HB := Aside0.mk (Below.refl w.heap.size w)
 have H := h
 clear h
 unfold vernierref09_Sum.f at H
 have HC3 := Aside0.mk H
 clear H
 go_enter Try.func93, Try.ntmps93
 go_upto_region 1 with (first | ((with_reducible refine gate_dst (N := 2) rfl ?_); refine boxA 2 (#[.int .i64 a0_0, .bool a0_1, .int .i64 a0_2, .int .u64 a0_3, .int .u64 a0_4, .bool a0_5]) 86 ?_; intro gb833 hg w4 BK833 hb; have GW833 := geT hg; have GE833 := GW833; replace HB := hbS hb; clear hb hg) | ((with_reducible refine gate_dst (N := 3) rfl ?_); refine boxA 3 (#[.int .i64 a1_0, .bool a1_1, .int .i64 a1_2, .int .u64 a1_3, .int .u64 a1_4, .bool a1_5]) 86 ?_; intro gb834 hg w5 BK834 hb; have GW834 := geT hg; have GE834 := GW834; obtain ⟨NB833_834, NB834_833⟩ := neT BK833 hg; replace BK833 := bkB BK833 hb; replace HB := hbS hb; clear hb hg) | ((with_reducible refine gate_dst (N := 4) rfl ?_); refine boxA 4 (#[.int .i64 0, .bool false, .int .i64 0, .int .u64 0, .int .u64 0, .bool false]) 86 ?_; intro gb835 hg w6 BK835 hb; have GW835 := geT hg; have GE835 := GW835; obtain ⟨NB833_835, NB835_833⟩ := neT BK833 hg; obtain ⟨NB834_835, NB835_834⟩ := neT BK834 hg; replace BK833 := bkB BK833 hb; replace BK834 := bkB BK834 hb; replace HB := hbS hb; clear hb hg))
 (try simp only [Act.put, List.setIfInBounds_toArray, List.set_cons_zero, List.set_cons_succ])
 go_cut [9] (fun v9 wc => ∃ (kq : Nat) (x9_2 : Bool), v9 = .bool x9_2 ∧ Aside0 (vernierref09_Sum.j0 kq x9_2 a0_0 a0_1 a0_2 a0_3 a0_4 a0_5 a1_0 a1_1 a1_2 a1_3 a1_4 a1_5 = some (r1, r2, r3, r4, r5, r6)) ∧ Aside0 (kq ≤ k) ∧ Aside0 (wc.heap[gb833]? = some (.cells #[.int .i64 a0_0, .bool a0_1, .int .i64 a0_2, .int .u64 a0_3, .int .u64 a0_4, .bool a0_5] 86 (0, 0))) ∧ Aside0 (wc.heap[gb834]? = some (.cells #[.int .i64 a1_0, .bool a1_1, .int .i64 a1_2, .int .u64 a1_3, .int .u64 a1_4, .bool a1_5] 86 (0, 0))) ∧ Aside0 (wc.heap[gb835]? = some (.cells #[.int .i64 0, .bool false, .int .i64 0, .int .u64 0, .int .u64 0, .bool false] 86 (0, 0))) ∧ Aside0 (Below w.heap.size w wc))
 case first =>
  have H := HC3.out
  clear HC3
  by_cases c7 : a0_0 = 2
  ·rw [if_pos c7] at H
   obtain ⟨c7b0, c7b1⟩ := eqY c7
   clear c7
   (first | rw [c7b0] | (simp only [i64_w, i32_w]; rw [c7b0]) | rw [c7b1] | skip)
   have H' := Aside0.mk H
   clear H
   have hnb8 := NB833_834.out
   have hnc8 := NB834_833.out
   have hnb9 := NB833_835.out
   have hnc9 := NB835_833.out
   obtain ⟨z10_0, z10_1, z10_2, z10_3, z10_4, z10_5, y10_0, y10_1, y10_2, y10_3, y10_4, y10_5⟩ := cz6 BK833
   go_wp2
   go_meet
   case rel => exact ⟨_, (true), okT, H', leT, ⟨bkT BK833⟩, ⟨bkT BK834⟩, ⟨bkT BK835⟩, ⟨hbT⟩⟩
  ·rw [if_neg c7] at H
   obtain ⟨c7b0, c7b1⟩ := eqN c7
   (first | rw [c7b0] | (simp only [i64_w, i32_w]; rw [c7b0]) | rw [c7b1] | skip)
   have H' := Aside0.mk H
   clear H
   have hnb11 := NB833_834.out
   have hnc11 := NB834_833.out
   have hnb12 := NB833_835.out
   have hnc12 := NB835_833.out
   obtain ⟨z13_0, z13_1, z13_2, z13_3, z13_4, z13_5, y13_0, y13_1, y13_2, y13_3, y13_4, y13_5⟩ := cz6 BK833
   have hnb14 := NB834_835.out
   have hnc14 := NB835_834.out
   obtain ⟨z15_0, z15_1, z15_2, z15_3, z15_4, z15_5, y15_0, y15_1, y15_2, y15_3, y15_4, y15_5⟩ := cz6 BK834
   go_wp2
   go_meet
   case rel => exact ⟨_, ((a1_0 == 2)), okT, H', leT, ⟨bkT BK833⟩, ⟨bkT BK834⟩, ⟨bkT BK835⟩, ⟨hbT⟩⟩
 case rest =>
  clear HC3
  obtain ⟨kq, x9_2, rfl, HA, HJ2, BK833, BK834, BK835, HB⟩ := hcut
  cases kq with
  | zero => exact absurd HA.out (by simp [vernierref09_Sum.j0])
  | succ kj2 =>
   have H := HA.out
   clear HA
   simp only [vernierref09_Sum.j0] at H
   by_cases c16 : x9_2 = true
   ·subst c16
    rw [if_pos rfl] at H
    simp only [Option.some.injEq, Prod.mk.injEq] at H
    obtain ⟨rfl, rfl, rfl, rfl, rfl, rfl⟩ := H
    have hnb17 := NB835_833.out
    have hnc17 := NB833_835.out
    have hnb18 := NB835_834.out
    have hnc18 := NB834_835.out
    obtain ⟨z19_0, z19_1, z19_2, z19_3, z19_4, z19_5, y19_0, y19_1, y19_2, y19_3, y19_4, y19_5⟩ := cz6 BK835
    go_wp2
    refine bodyPost_ret (results_cell_row rfl _ _ gb835 86 #[.int .i64 2, .bool false, .int .i64 0, .int .u64 0, .int .u64 0, .bool false] (0, 0) _ rfl (bkT BK835) Try.underlying86 rfl (by kernel_rfl)) rfl ?_
    exact ⟨reT, hbT⟩
   ·replace c16 := Bool.eq_false_iff.mpr c16
    subst c16
    rw [if_neg (show ¬ (false = true) by decide)] at H
    by_cases c20 : a0_0 = 0
    ·rw [if_pos c20] at H
     obtain ⟨c20b0, c20b1⟩ := eqY c20
     clear c20
     simp only [Option.some.injEq, Prod.mk.injEq] at H
     obtain ⟨rfl, rfl, rfl, rfl, rfl, rfl⟩ := H
     have hnb21 := NB833_834.out
     have hnc21 := NB834_833.out
     have hnb22 := NB833_835.out
     have hnc22 := NB835_833.out
     obtain ⟨z23_0, z23_1, z23_2, z23_3, z23_4, z23_5, y23_0, y23_1, y23_2, y23_3, y23_4, y23_5⟩ := cz6 BK833
     have hnb24 := NB834_835.out
     have hnc24 := NB835_834.out
     obtain ⟨z25_0, z25_1, z25_2, z25_3, z25_4, z25_5, y25_0, y25_1, y25_2, y25_3, y25_4, y25_5⟩ := cz6 BK834
     obtain ⟨z26_0, z26_1, z26_2, z26_3, z26_4, z26_5, y26_0, y26_1, y26_2, y26_3, y26_4, y26_5⟩ := cz6 BK835
     go_wp2
     refine bodyPost_ret (results_cell_row rfl _ _ gb835 86 #[.int .i64 a1_0, .bool a1_1, .int .i64 a1_2, .int .u64 a1_3, .int .u64 a1_4, .bool a1_5] (0, 0) _ rfl (bkT BK835) Try.underlying86 rfl (by kernel_rfl)) rfl ?_
     exact ⟨reT, hbT⟩
    ·rw [if_neg c20] at H
     obtain ⟨c20b0, c20b1⟩ := eqN c20
     by_cases c27 : a1_0 = 0
     ·rw [if_pos c27] at H
      obtain ⟨c27b0, c27b1⟩ := eqY c27
      clear c27
      simp only [Option.some.injEq, Prod.mk.injEq] at H
      obtain ⟨rfl, rfl, rfl, rfl, rfl, rfl⟩ := H
      have hnb28 := NB833_834.out
      have hnc28 := NB834_833.out
      have hnb29 := NB833_835.out
      have hnc29 := NB835_833.out
      obtain ⟨z30_0, z30_1, z30_2, z30_3, z30_4, z30_5, y30_0, y30_1, y30_2, y30_3, y30_4, y30_5⟩ := cz6 BK833
      have hnb31 := NB834_835.out
      have hnc31 := NB835_834.out
      obtain ⟨z32_0, z32_1, z32_2, z32_3, z32_4, z32_5, y32_0, y32_1, y32_2, y32_3, y32_4, y32_5⟩ := cz6 BK834
      obtain ⟨z33_0, z33_1, z33_2, z33_3, z33_4, z33_5, y33_0, y33_1, y33_2, y33_3, y33_4, y33_5⟩ := cz6 BK835
      go_wp2
      refine bodyPost_ret (results_cell_row rfl _ _ gb835 86 #[.int .i64 a0_0, .bool a0_1, .int .i64 a0_2, .int .u64 a0_3, .int .u64 a0_4, .bool a0_5] (0, 0) _ rfl (bkT BK835) Try.underlying86 rfl (by kernel_rfl)) rfl ?_
      exact ⟨reT, hbT⟩
     ·rw [if_neg c27] at H
      obtain ⟨c27b0, c27b1⟩ := eqN c27
      by_cases c34 : a0_2 < a1_2
      ·rw [if_pos c34] at H
       have c34b0 : decide (a0_2 < a1_2) = true := decide_eq_true c34
       clear c34
       replace H := Option.bind_eq_some_iff.mp H
       obtain ⟨⟨t836, t837, t838, t839, t840, t841⟩, A350, H⟩ := H
       try dsimp only at H
       have A35 := Aside0.mk A350
       clear A350
       simp only [Option.some.injEq, Prod.mk.injEq] at H
       obtain ⟨rfl, rfl, rfl, rfl, rfl, rfl⟩ := H
       have hnb36 := NB833_834.out
       have hnc36 := NB834_833.out
       have hnb37 := NB833_835.out
       have hnc37 := NB835_833.out
       obtain ⟨z38_0, z38_1, z38_2, z38_3, z38_4, z38_5, y38_0, y38_1, y38_2, y38_3, y38_4, y38_5⟩ := cz6 BK833
       have hnb39 := NB834_835.out
       have hnc39 := NB835_834.out
       obtain ⟨z40_0, z40_1, z40_2, z40_3, z40_4, z40_5, y40_0, y40_1, y40_2, y40_3, y40_4, y40_5⟩ := cz6 BK834
       go_wp2_with (first | ((with_reducible refine gate_callee (f := 93) rfl ?_); refine goA (some 37) Try.func93 (ih kj2 (by have := HJ2.out; omega) a1_0 a1_1 a1_2 a1_3 a1_4 a1_5 a0_0 a0_1 a0_2 a0_3 a0_4 a0_5 t836 t837 t838 t839 t840 t841 _ A35.out) ?_; intro w41 hb; replace BK833 := bkB BK833 hb; replace BK834 := bkB BK834 hb; replace BK835 := bkB BK835 hb; replace HB := hbS hb; clear hb; obtain ⟨z42_0, z42_1, z42_2, z42_3, z42_4, z42_5, y42_0, y42_1, y42_2, y42_3, y42_4, y42_5⟩ := cz6 BK835))
       refine bodyPost_ret (results_cell_row rfl _ _ gb835 86 #[.int .i64 t836, .bool t837, .int .i64 t838, .int .u64 t839, .int .u64 t840, .bool t841] (0, 0) _ rfl (bkT BK835) Try.underlying86 rfl (by kernel_rfl)) rfl ?_
       exact ⟨reT, hbT⟩
      ·rw [if_neg c34] at H
       have c34b0 : decide (a0_2 < a1_2) = false := decide_eq_false c34
       clear c34
       replace H := Option.bind_eq_some_iff.mp H
       obtain ⟨t842, A430, H⟩ := H
       try dsimp only at H
       have A43 := Aside0.mk A430
       clear A430
       replace H := Option.bind_eq_some_iff.mp H
       obtain ⟨t845, A440, H⟩ := H
       try dsimp only at H
       have A44 := Aside0.mk A440
       clear A440
       have HC45 := Aside0.mk H
       clear H
       have hnb46 := NB833_834.out
       have hnc46 := NB834_833.out
       have hnb47 := NB833_835.out
       have hnc47 := NB835_833.out
       obtain ⟨z48_0, z48_1, z48_2, z48_3, z48_4, z48_5, y48_0, y48_1, y48_2, y48_3, y48_4, y48_5⟩ := cz6 BK833
       have hnb49 := NB834_835.out
       have hnc49 := NB835_834.out
       obtain ⟨z50_0, z50_1, z50_2, z50_3, z50_4, z50_5, y50_0, y50_1, y50_2, y50_3, y50_4, y50_5⟩ := cz6 BK834
       go_upto_if 56 with (first | ((with_reducible refine gate_callee (f := 113) rfl ?_); refine goesL_ (some 43) rfl rfl Try.func113 (by kernel_rfl) rfl #[.agg #[.int .u64 a0_3, .int .u64 a0_4]] rfl (by (try simp only [List.map_toArray, List.map_cons, List.map_nil]); first | done | rfl | (simp only [List.length_drop, List.length_take]; rfl)) ?_; (with_reducible refine (vernierref02_Of.calls kj2 a0_3 a0_4 t842 _ A43.out).mono ?_); rintro e w51 ⟨v843, rfl, ho0, hb⟩; refine ⟨_, rfl, ?_⟩; have HO844 := Aside0.mk (Kd.R_lower ho0 (below_size hbT)); replace BK833 := bkB BK833 hb; replace BK834 := bkB BK834 hb; replace BK835 := bkB BK835 hb; replace HB := hbS hb; (try clear hb); (try clear hb2); (try clear hk); (try clear hi); (try clear ho0); obtain ⟨z52_0, z52_1, z52_2, z52_3, z52_4, z52_5, y52_0, y52_1, y52_2, y52_3, y52_4, y52_5⟩ := cz6 BK834) | ((with_reducible refine gate_callee (f := 113) rfl ?_); refine goesL_ (some 49) rfl rfl Try.func113 (by kernel_rfl) rfl #[.agg #[.int .u64 a1_3, .int .u64 a1_4]] rfl (by (try simp only [List.map_toArray, List.map_cons, List.map_nil]); first | done | rfl | (simp only [List.length_drop, List.length_take]; rfl)) ?_; (with_reducible refine (vernierref02_Of.calls kj2 a1_3 a1_4 t845 _ A44.out).mono ?_); rintro e w53 ⟨v846, rfl, ho0, hb⟩; refine ⟨_, rfl, ?_⟩; have n0_ := Aside0.mk (Kd.R_elder' (by (with_reducible repeat (first | apply Kd.R_alloc | apply Kd.R_drewN | apply Kd.R_drew)); exact HO844.out) (Kd.R_base ho0) hb); have n1_ := Aside0.mk (Kd.R_lower (Kd.R_new' ho0 (Kd.R_lt (by (with_reducible repeat (first | apply Kd.R_alloc | apply Kd.R_drewN | apply Kd.R_drew)); exact HO844.out))) (below_size hbT)); have n2_ := bkB BK833 hb; have n3_ := bkB BK834 hb; have n4_ := bkB BK835 hb; have n5_ := hbS hb; clear HO844; clear BK833; clear BK834; clear BK835; clear HB; have HO844 := n0_; have HO847 := n1_; have BK833 := n2_; have BK834 := n3_; have BK835 := n4_; have HB := n5_; clear n0_ n1_ n2_ n3_ n4_ n5_; (try clear hb); (try clear hb2); (try clear hk); (try clear hi); (try clear ho0); obtain ⟨z54_0, z54_1, z54_2, z54_3, z54_4, z54_5, y54_0, y54_1, y54_2, y54_3, y54_4, y54_5⟩ := cz6 BK833; obtain ⟨z55_0, z55_1, z55_2, z55_3, z55_4, z55_5, y55_0, y55_1, y55_2, y55_3, y55_4, y55_5⟩ := cz6 BK834))
       (try simp only [Act.put, List.setIfInBounds_toArray, List.set_cons_zero, List.set_cons_succ])
       go_cut [6, 7] (fun v6 v7 wc => ∃ (kq : Nat) (x6_44 : List Int) (x7_44 : Int), v7 = .int .i64 x7_44 ∧ Aside0 (vernierref09_Sum.j1 kq t842 x6_44 x7_44 a0_0 a0_1 a0_2 a0_3 a0_4 a0_5 a1_0 a1_1 a1_2 a1_3 a1_4 a1_5 = some (r1, r2, r3, r4, r5, r6)) ∧ Aside0 (kq ≤ kj2) ∧ Aside0 (Kd.R (Kd.int .i64) 3 wc w.heap.size (fun k_ => some k_ ≠ (v6 : Value).ownBlock) v843 t842) ∧ Aside0 (Kd.R (Kd.int .i64) 3 wc w.heap.size (fun k_ => some k_ ≠ (v843 : Value).ownBlock) v6 x6_44) ∧ Aside0 (wc.heap[gb833]? = some (.cells #[.int .i64 a0_0, .bool a0_1, .int .i64 a0_2, .int .u64 a0_3, .int .u64 a0_4, .bool a0_5] 86 (0, 0))) ∧ Aside0 (wc.heap[gb834]? = some (.cells #[.int .i64 a1_0, .bool a1_1, .int .i64 a1_2, .int .u64 a1_3, .int .u64 a1_4, .bool a1_5] 86 (0, 0))) ∧ Aside0 (wc.heap[gb835]? = some (.cells #[.int .i64 0, .bool false, .int .i64 0, .int .u64 0, .int .u64 0, .bool false] 86 (0, 0))) ∧ Aside0 (Below w.heap.size w wc))
       case first =>
        have H := HC45.out
        clear HC45
        by_cases c56 : (wrap64 (a0_2 - a1_2)) > 400
        ·rw [if_pos c56] at H
         have c56b0 : decide (400 < (wrap64 (a0_2 - a1_2))) = true := decide_eq_true c56
         clear c56
         (first | rw [c56b0] | (simp only [i64_w, i32_w]; rw [c56b0]) | rw [c56b1] | skip)
         obtain ⟨y848, hy848⟩ : ∃ y_ : List Int, y_ = (([1] : List Int)) := ⟨_, rfl⟩
         replace H : (vernierref09_Sum.j1 kj2 t842 y848 400 a0_0 a0_1 a0_2 a0_3 a0_4 a0_5 a1_0 a1_1 a1_2 a1_3 a1_4 a1_5) = some (r1, r2, r3, r4, r5, r6) := by first | (rw [hy848]; with_reducible exact H) | (have H2_ := (Option.bind_some _ _).symm.trans H; rw [hy848]; with_reducible exact H2_) | (have H2_ := (Option.bind_some _ _).symm.trans H; with_reducible exact H2_) | with_reducible exact H | (rw [hy848]; exact H) | exact H
         have Ny848 := Aside0.mk hy848
         clear hy848
         have H' := Aside0.mk H
         clear H
         go_wp2_with (first | ((with_reducible refine gate_dst (N := 57) rfl ?_); refine Kd.R_lit (Kd.int .i64) _ 3 ?hg (N := 57) ?hd (xs := ([1] : List Int)) (inner := [.int .i64 1]) (ok := fun _ => True) (okp := fun _ => True) ?hr ?hp (fun _ hk => hk) trivial (Below.refl _ _) (Nat.le_refl _) (by simp) ?_; (case hd => rfl); (case hg => rfl); (case hr => first | (go_simp; done) | (go_simp; rfl)); (case hp => exact (Reps.one (show Kd.M (Kd.int .i64) _ _ _ 1 [.int .i64 1] from rfl) (Reps.none _ _))); intro v849 w57 ho58 hb hg_ hnew_; clear hg_ hnew_; (first | rw [← Ny848.out] at ho58 | (simp only [Int.reduceToNat] at ho58; rw [← Ny848.out] at ho58)); have n0_ := Aside0.mk (Kd.R_elder' (by (with_reducible repeat (first | apply Kd.R_alloc | apply Kd.R_drewN | apply Kd.R_drew)); exact HO844.out) (Kd.R_base ho58) hb); have n1_ := Aside0.mk (Kd.R_elder' (by (with_reducible repeat (first | apply Kd.R_alloc | apply Kd.R_drewN | apply Kd.R_drew)); exact HO847.out) (Kd.R_base ho58) hb); have n2_ := Aside0.mk (Kd.R_lower (Kd.R_new' (Kd.R_new' ho58 (Kd.R_lt (by (with_reducible repeat (first | apply Kd.R_alloc | apply Kd.R_drewN | apply Kd.R_drew)); exact HO844.out))) (Kd.R_lt (by (with_reducible repeat (first | apply Kd.R_alloc | apply Kd.R_drewN | apply Kd.R_drew)); exact HO847.out))) (below_size hbT)); have n3_ := bkB BK833 hb; have n4_ := bkB BK834 hb; have n5_ := bkB BK835 hb; have n6_ := hbS hb; clear HO844; clear HO847; clear BK833; clear BK834; clear BK835; clear HB; have HO844 := n0_; have HO847 := n1_; have HO850 := n2_; have BK833 := n3_; have BK834 := n4_; have BK835 := n5_; have HB := n6_; clear n0_ n1_ n2_ n3_ n4_ n5_ n6_; clear hb ho58))
         go_meet
         case rel => exact ⟨_, (y848), (400), okT, H', ⟨by have := HJ2.out; first | omega | exact Nat.le_refl _⟩, ⟨by (with_reducible repeat (first | apply Kd.R_alloc | apply Kd.R_drewN | apply Kd.R_drew)); exact Kd.R_mono HO844.out (fun _ hk => hk.2)⟩, ⟨by (with_reducible repeat (first | apply Kd.R_alloc | apply Kd.R_drewN | apply Kd.R_drew)); exact Kd.R_mono HO850.out (fun _ hk => hk.1.2)⟩, ⟨bkT BK833⟩, ⟨bkT BK834⟩, ⟨bkT BK835⟩, ⟨hbT⟩⟩
        ·rw [if_neg c56] at H
         have c56b0 : decide (400 < (wrap64 (a0_2 - a1_2))) = false := decide_eq_false c56
         clear c56
         (first | rw [c56b0] | (simp only [i64_w, i32_w]; rw [c56b0]) | rw [c56b1] | skip)
         have H' := Aside0.mk H
         clear H
         go_wp2
         go_meet
         case rel => exact ⟨_, (t845), (wrap64 (a0_2 - a1_2)), okT, H', ⟨by have := HJ2.out; first | omega | exact Nat.le_refl _⟩, ⟨by (with_reducible repeat (first | apply Kd.R_alloc | apply Kd.R_drewN | apply Kd.R_drew)); exact Kd.R_mono HO844.out (fun _ hk => hk.2)⟩, ⟨by (with_reducible repeat (first | apply Kd.R_alloc | apply Kd.R_drewN | apply Kd.R_drew)); exact Kd.R_mono HO847.out (fun _ hk => hk.2)⟩, ⟨bkT BK833⟩, ⟨bkT BK834⟩, ⟨bkT BK835⟩, ⟨hbT⟩⟩
       case rest =>
        clear HC45
        try clear c16
        try clear c20
        try clear c20b0
        try clear c20b1
        try clear c27
        try clear c27b0
        try clear c27b1
        try clear c34
        try clear c34b0
        try clear z48_0 z48_1 z48_2 z48_3 z48_4 z48_5 y48_0 y48_1 y48_2 y48_3 y48_4 y48_5
        try clear z50_0 z50_1 z50_2 z50_3 z50_4 z50_5 y50_0 y50_1 y50_2 y50_3 y50_4 y50_5
        try clear z52_0 z52_1 z52_2 z52_3 z52_4 z52_5 y52_0 y52_1 y52_2 y52_3 y52_4 y52_5
        try clear z54_0 z54_1 z54_2 z54_3 z54_4 z54_5 y54_0 y54_1 y54_2 y54_3 y54_4 y54_5
        try clear z55_0 z55_1 z55_2 z55_3 z55_4 z55_5 y55_0 y55_1 y55_2 y55_3 y55_4 y55_5
        obtain ⟨kq, x6_44, x7_44, rfl, HA, HJ44, HO_5, HO_6, BK833, BK834, BK835, HB⟩ := hcut
        cases kq with
        | zero => exact absurd HA.out (by simp [vernierref09_Sum.j1])
        | succ kj44 =>
         have H := HA.out
         clear HA
         simp only [vernierref09_Sum.j1] at H
         replace H := Option.bind_eq_some_iff.mp H
         obtain ⟨t851, A590, H⟩ := H
         try dsimp only at H
         have A59 := Aside0.mk A590
         clear A590
         by_cases c60 : (a0_1 == a1_1) = true
         ·rw [if_pos c60] at H
          have c60b0 : (a0_1 == a1_1) = true := c60
          (try (have c60b1 : decide (a0_1 = a1_1) = true := by simpa using c60))
          (try (have c60b2 : (a0_1 == a1_1) = true := by simpa using c60))
          clear c60
          replace H := Option.bind_eq_some_iff.mp H
          obtain ⟨t854, A610, H⟩ := H
          try dsimp only at H
          have A61 := Aside0.mk A610
          clear A610
          replace H := Option.bind_eq_some_iff.mp H
          obtain ⟨⟨t857, t858, t859, t860, t861, t862⟩, A620, H⟩ := H
          try dsimp only at H
          have A62 := Aside0.mk A620
          clear A620
          simp only [Option.some.injEq, Prod.mk.injEq] at H
          obtain ⟨rfl, rfl, rfl, rfl, rfl, rfl⟩ := H
          obtain ⟨Ao63, co63, eo63⟩ := Kd.R_slice HO_5.out
          subst eo63
          try go_wp2_with (first | ((with_reducible refine gate_callee (f := 114) rfl ?_); refine goesL_ (some 60) rfl rfl Try.func114 (by kernel_rfl) rfl #[.slice Ao63 t842.length co63, .int .i64 x7_44] rfl (by (try simp only [List.map_toArray, List.map_cons, List.map_nil]); first | done | rfl | (simp only [List.length_drop, List.length_take]; rfl)) ?_; (with_reducible refine (vernierref04_Shl.calls kj44 _ _ t842 x7_44 t851 _ ?side1 ?side2 A59.out).mono ?_); (case side1 => repeat (first | exact (Kd.R_reads' HO_5.out).2.2 | (with_reducible refine Kd.C_alloc ?_ _) | (with_reducible refine Kd.C_drewN ?_ _) | (with_reducible refine Kd.C_drew ?_))); (case side2 => exact (Kd.R_reads' HO_5.out).2.1); rintro e w64 ⟨v852, rfl, ho0, hb⟩; refine ⟨_, rfl, ?_⟩; have n0_ := Aside0.mk (Kd.R_elder' (by (with_reducible repeat (first | apply Kd.R_alloc | apply Kd.R_drewN | apply Kd.R_drew)); exact HO_5.out) (Kd.R_base ho0) hb); have n1_ := Aside0.mk (Kd.R_elder' (by (with_reducible repeat (first | apply Kd.R_alloc | apply Kd.R_drewN | apply Kd.R_drew)); exact HO_6.out) (Kd.R_base ho0) hb); have n2_ := Aside0.mk (Kd.R_lower (Kd.R_new' (Kd.R_new' ho0 (Kd.R_lt (by (with_reducible repeat (first | apply Kd.R_alloc | apply Kd.R_drewN | apply Kd.R_drew)); exact HO_5.out))) (Kd.R_lt (by (with_reducible repeat (first | apply Kd.R_alloc | apply Kd.R_drewN | apply Kd.R_drew)); exact HO_6.out))) (below_size hbT)); have n3_ := bkB BK833 hb; have n4_ := bkB BK834 hb; have n5_ := bkB BK835 hb; have n6_ := hbS hb; clear HO_5; clear HO_6; clear BK833; clear BK834; clear BK835; clear HB; have HO_5 := n0_; have HO_6 := n1_; have HO853 := n2_; have BK833 := n3_; have BK834 := n4_; have BK835 := n5_; have HB := n6_; clear n0_ n1_ n2_ n3_ n4_ n5_ n6_; (try clear hb); (try clear hb2); (try clear hk); (try clear hi); (try clear ho0); have hnb65 := NB833_834.out; have hnc65 := NB834_833.out; have hnb66 := NB833_835.out; have hnc66 := NB835_833.out; obtain ⟨z67_0, z67_1, z67_2, z67_3, z67_4, z67_5, y67_0, y67_1, y67_2, y67_3, y67_4, y67_5⟩ := cz6 BK833; have hnb68 := NB834_835.out; have hnc68 := NB835_834.out; obtain ⟨z69_0, z69_1, z69_2, z69_3, z69_4, z69_5, y69_0, y69_1, y69_2, y69_3, y69_4, y69_5⟩ := cz6 BK834))
          have n0_ := Aside0.mk (Kd.R_drew HO_5.out)
          have n1_ := Aside0.mk (Kd.R_drew HO_6.out)
          have n2_ := Aside0.mk (Kd.R_drew HO853.out)
          have n3_ := Aside0.mk (blk_drew BK833.out)
          have n4_ := Aside0.mk (blk_drew BK834.out)
          have n5_ := Aside0.mk (blk_drew BK835.out)
          have n6_ := Aside0.mk (below_drew1 HB.out)
          clear HO_5
          clear HO_6
          clear HO853
          clear BK833
          clear BK834
          clear BK835
          clear HB
          have HO_5 := n0_
          have HO_6 := n1_
          have HO853 := n2_
          have BK833 := n3_
          have BK834 := n4_
          have BK835 := n5_
          have HB := n6_
          clear n0_ n1_ n2_ n3_ n4_ n5_ n6_
          obtain ⟨Ao71, co71, eo71⟩ := Kd.R_slice HO853.out
          (first | subst eo71 | (injection eo71 with f1_ f2_ f3_; have f4_ := f1_.symm; have f5_ := f3_.symm; clear f1_ f2_ f3_; subst f4_; subst f5_))
          obtain ⟨Ao72, co72, eo72⟩ := Kd.R_slice HO_6.out
          (first | subst eo72 | (injection eo72 with f1_ f2_ f3_; have f4_ := f1_.symm; have f5_ := f3_.symm; clear f1_ f2_ f3_; subst f4_; subst f5_))
          refine start_ (n := 8) (S := fun w' => w'.cell? ⟨gb833, 0, none⟩ = some (.int .i64 a0_0) ∧ w'.cell? ⟨gb833, 1, none⟩ = some (.bool a0_1) ∧ w'.cell? ⟨gb833, 2, none⟩ = some (.int .i64 a0_2) ∧ w'.cell? ⟨gb833, 3, none⟩ = some (.int .u64 a0_3) ∧ w'.cell? ⟨gb833, 4, none⟩ = some (.int .u64 a0_4) ∧ w'.cell? ⟨gb833, 5, none⟩ = some (.bool a0_5)) (ds := []) #[false, false, false, false, false, false, false, false] (by kernel_rfl) rfl rfl ⟨(blk_cell BK833.out 0).trans rfl, (blk_cell BK833.out 1).trans rfl, (blk_cell BK833.out 2).trans rfl, (blk_cell BK833.out 3).trans rfl, (blk_cell BK833.out 4).trans rfl, (blk_cell BK833.out 5).trans rfl⟩ (fun hHeld => ?_); refine with_tabW vernierref09_Sum.tab18 vernierref09_Sum.bits18 (fun HT_ HW_ => ?_)
          generalize w64.drew = w70 at HO_5 HO_6 HO853 BK833 BK834 BK835 HB hHeld ⊢
          refine pure_ (i := 0) (N := some 71) (v := ?_) (a' := ?_) #[true, false, false, false, false, false, false, false] rfl rfl (any_of HT_.out (by kernel_rfl)) (fun _ _ _ h => h) (Or.inl ⟨by rfl, ?_⟩) ?_ ?_
          rotate_left
          ·intro w'
           go_simp
           with_reducible rfl
          rotate_left
          ·simp only [Act.put, List.setIfInBounds_toArray, List.set_cons_zero, List.set_cons_succ, i64_w, i32_w]
           rfl
          refine pure_ (i := 2) (N := some 73) (v := ?_) (a' := ?_) #[true, false, true, false, false, false, false, false] rfl rfl (any_of HT_.out (by kernel_rfl)) (fun _ _ _ h => h) (Or.inl ⟨by rfl, ?_⟩) ?_ ?_
          rotate_left
          ·intro w'
           go_simp
           with_reducible rfl
          rotate_left
          ·simp only [Act.put, List.setIfInBounds_toArray, List.set_cons_zero, List.set_cons_succ, i64_w, i32_w]
           rfl
          refine pure_ (i := 3) (N := some 74) (v := ?_) (a' := ?_) #[true, false, true, true, false, false, false, false] rfl rfl (any_of HT_.out (by kernel_rfl)) (fun _ _ _ h => h) (Or.inl ⟨by rfl, ?_⟩) ?_ ?_
          rotate_left
          ·intro w'
           go_simp
           with_reducible rfl
          rotate_left
          ·simp only [Act.put, List.setIfInBounds_toArray, List.set_cons_zero, List.set_cons_succ, i64_w, i32_w]
           rfl
          refine pure_ (i := 5) (N := some 76) (v := ?_) (a' := ?_) #[true, false, true, true, false, true, false, false] rfl rfl (any_of HT_.out (by kernel_rfl)) (fun _ _ _ h => h) (Or.inl ⟨by rfl, ?_⟩) ?_ ?_
          rotate_left
          ·intro w'
           go_simp
           with_reducible rfl
          rotate_left
          ·simp only [Act.put, List.setIfInBounds_toArray, List.set_cons_zero, List.set_cons_succ, i64_w, i32_w]
           rfl
          refine take_ (i := 1) (N := some 72) (v := ?_) (a' := ?_) #[true, true, true, true, false, true, false, false] rfl rfl (take_ofW HT_.out HW_.out (by kernel_rfl)) (fun _ _ _ h => h) (Or.inl ⟨by rfl, ?_⟩) hHeld ?_ ?_
          rotate_left
          ·rintro w' ⟨s0, s1, s2, s3, s4, s5⟩
           go_simp
           with_reducible rfl
          rotate_left
          ·simp only [Act.put, List.setIfInBounds_toArray, List.set_cons_zero, List.set_cons_succ, i64_w, i32_w]
           rfl
          refine one_ (i := 4) (N := some 75) #[true, true, true, true, true, true, false, false] rfl rfl (one_of HT_.out (by kernel_rfl)) (by decide) (fun K hK => ?_)
          refine goes_ Try.func116 (by kernel_rfl) rfl #[.slice Ao71 t851.length co71, .slice Ao72 x6_44.length co72] (by rfl) rfl rfl (by (try simp only [List.map_toArray, List.map_cons, List.map_nil]); first | done | rfl | (simp only [List.length_drop, List.length_take]; rfl)) ?_
          with_reducible refine (vernierref04_Add.calls kj44 _ _ t851 _ _ x6_44 t854 _ ?side1 ?side2 ?side3 ?side4 A61.out).mono ?_
          (case side1 => repeat (first | exact (Kd.R_reads' HO853.out).2.2 | (with_reducible refine Kd.C_alloc ?_ _) | (with_reducible refine Kd.C_drewN ?_ _) | (with_reducible refine Kd.C_drew ?_)))
          (case side2 => exact (Kd.R_reads' HO853.out).2.1)
          (case side3 => repeat (first | exact (Kd.R_reads' HO_6.out).2.2 | (with_reducible refine Kd.C_alloc ?_ _) | (with_reducible refine Kd.C_drewN ?_ _) | (with_reducible refine Kd.C_drew ?_)))
          (case side4 => exact (Kd.R_reads' HO_6.out).2.1)
          rintro e w73 ⟨v855, rfl, ho0, hb⟩
          refine ⟨_, rfl, ?_⟩
          have n0_ := Aside0.mk (Kd.R_elder' (by (with_reducible repeat (first | apply Kd.R_alloc | apply Kd.R_drewN | apply Kd.R_drew)); exact HO_5.out) (Kd.R_base ho0) hb)
          have n1_ := Aside0.mk (Kd.R_elder' (by (with_reducible repeat (first | apply Kd.R_alloc | apply Kd.R_drewN | apply Kd.R_drew)); exact HO_6.out) (Kd.R_base ho0) hb)
          have n2_ := Aside0.mk (Kd.R_elder' (by (with_reducible repeat (first | apply Kd.R_alloc | apply Kd.R_drewN | apply Kd.R_drew)); exact HO853.out) (Kd.R_base ho0) hb)
          have n3_ := Aside0.mk (Kd.R_lower (Kd.R_new' (Kd.R_new' (Kd.R_new' ho0 (Kd.R_lt (by (with_reducible repeat (first | apply Kd.R_alloc | apply Kd.R_drewN | apply Kd.R_drew)); exact HO_5.out))) (Kd.R_lt (by (with_reducible repeat (first | apply Kd.R_alloc | apply Kd.R_drewN | apply Kd.R_drew)); exact HO_6.out))) (Kd.R_lt (by (with_reducible repeat (first | apply Kd.R_alloc | apply Kd.R_drewN | apply Kd.R_drew)); exact HO853.out))) (below_size hbT))
          have n4_ := bkB BK833 hb
          have n5_ := bkB BK834 hb
          have n6_ := bkB BK835 hb
          have n7_ := hbS hb
          clear HO_5
          clear HO_6
          clear HO853
          clear BK833
          clear BK834
          clear BK835
          clear HB
          have HO_5 := n0_
          have HO_6 := n1_
          have HO853 := n2_
          have HO856 := n3_
          have BK833 := n4_
          have BK834 := n5_
          have BK835 := n6_
          have HB := n7_
          clear n0_ n1_ n2_ n3_ n4_ n5_ n6_ n7_
          (try clear hb)
          (try clear hb2)
          (try clear hk)
          (try clear hi)
          (try clear ho0)
          obtain ⟨Ao74, co74, eo74⟩ := Kd.R_slice HO856.out
          (first | subst eo74 | (injection eo74 with f1_ f2_ f3_; have f4_ := f1_.symm; have f5_ := f3_.symm; clear f1_ f2_ f3_; subst f4_; subst f5_))
          refine hK.out _ _ ⟨(blk_cell BK833.out 0).trans rfl, (blk_cell BK833.out 1).trans rfl, (blk_cell BK833.out 2).trans rfl, (blk_cell BK833.out 3).trans rfl, (blk_cell BK833.out 4).trans rfl, (blk_cell BK833.out 5).trans rfl⟩ (fun hHeld => ?_)
          clear hK K
          refine norm_ (a' := ?_) ?_ ?_
          rotate_left
          ·show Act.put _ (some 75) _ = _
           simp only [Act.put, List.setIfInBounds_toArray, List.set_cons_zero, List.set_cons_succ, i64_w, i32_w]
           rfl
          refine one_ (i := 6) (N := some 77) #[true, true, true, true, true, true, true, false] rfl rfl (one_of HT_.out (by kernel_rfl)) (by decide) (fun K hK => ?_)
          refine goes_ Try.func115 (by kernel_rfl) rfl #[.bool a0_1, .slice Ao74 t854.length co74, .int .i64 (wrap64 ((wrap64 (a0_2 - 127)) - x7_44)), .bool false] (by rfl) rfl rfl (by (try simp only [List.map_toArray, List.map_cons, List.map_nil]); first | done | rfl | (simp only [List.length_drop, List.length_take]; rfl)) ?_
          with_reducible refine (vernierref07_Exactly.calls kj44 a0_1 (fun k_ => some k_ = (.slice Ao74 t854.length co74 : Value).ownBlock) (.slice Ao74 t854.length co74) t854 (wrap64 ((wrap64 (a0_2 - 127)) - x7_44)) false t857 t858 t859 t860 t861 t862 w _ ?side1 ?side2 A62.out).mono ?_
          (case side1 => repeat (first | (with_reducible first | exact HB.out | apply below_alloc | apply pw_below_drewN | apply below_drew1 | refine below_set ?_ GE833.out | refine below_set ?_ GE834.out | refine below_set ?_ GE835.out) | exact HB.out))
          (case side2 => exact Kd.R_tight rfl HO856.out)
          rintro e w75 ⟨rfl, hb, hkp⟩
          refine ⟨_, rfl, ?_⟩
          have n0_ := Aside0.mk (Kd.R_mono (ok' := fun k_ => some k_ ≠ (.slice Ao72 x6_44.length co72 : Value).ownBlock ∧ some k_ ≠ (.slice Ao71 t851.length co71 : Value).ownBlock) (Kd.R_keptB (HO_5.out) hkp (fun k_ hk_ hs_ => (hk_.2) hs_)) (fun k_ hk_ => (by refine ⟨?_, ?_⟩ <;> first | exact hk_.1.1.1 | exact hk_.1.1.2 | exact hk_.1.2 | exact hk_.2 | exact hk_.1.1.1.1 | exact hk_.1.1.1.2 | exact hk_.1.1 | exact hk_.1.1.2.1 | exact hk_.1.1.2.2)))
          have n1_ := Aside0.mk (Kd.R_mono (ok' := fun k_ => some k_ ≠ (.slice Ao63 t842.length co63 : Value).ownBlock ∧ some k_ ≠ (.slice Ao71 t851.length co71 : Value).ownBlock) (Kd.R_keptB (HO_6.out) hkp (fun k_ hk_ hs_ => (hk_.2) hs_)) (fun k_ hk_ => (by refine ⟨?_, ?_⟩ <;> first | exact hk_.1.1.1 | exact hk_.1.1.2 | exact hk_.1.2 | exact hk_.2 | exact hk_.1.1.1.1 | exact hk_.1.1.1.2 | exact hk_.1.1 | exact hk_.1.1.2.1 | exact hk_.1.1.2.2)))
          have n2_ := Aside0.mk (blk_kept (bkT BK833) hkp (fun hs_ => (fun e_ => (Kd.R_ne HO856.out BK833.out (by decide)) e_) hs_))
          have n3_ := Aside0.mk (blk_kept (bkT BK834) hkp (fun hs_ => (fun e_ => (Kd.R_ne HO856.out BK834.out (by decide)) e_) hs_))
          have n4_ := Aside0.mk (blk_kept (bkT BK835) hkp (fun hs_ => (fun e_ => (Kd.R_ne HO856.out BK835.out (by decide)) e_) hs_))
          have n5_ := Aside0.mk (Kd.R_mono (ok' := fun k_ => some k_ ≠ (.slice Ao63 t842.length co63 : Value).ownBlock ∧ some k_ ≠ (.slice Ao72 x6_44.length co72 : Value).ownBlock) (Kd.R_keptB (HO853.out) hkp (fun k_ hk_ hs_ => (hk_.2) hs_)) (fun k_ hk_ => (by refine ⟨?_, ?_⟩ <;> first | exact hk_.1.1.1 | exact hk_.1.1.2 | exact hk_.1.2 | exact hk_.2 | exact hk_.1.1.1.1 | exact hk_.1.1.1.2 | exact hk_.1.1 | exact hk_.1.1.2.1 | exact hk_.1.1.2.2)))
          have n6_ := Aside0.mk (hb)
          clear HO_5
          clear HO_6
          clear BK833
          clear BK834
          clear BK835
          clear HO853
          clear HB
          clear HO856
          have HO_5 := n0_
          have HO_6 := n1_
          have BK833 := n2_
          have BK834 := n3_
          have BK835 := n4_
          have HO853 := n5_
          have HB := n6_
          clear n0_ n1_ n2_ n3_ n4_ n5_ n6_
          (try clear hb)
          (try clear hkp)
          refine hK.out _ _ ⟨(blk_cell BK833.out 0).trans rfl, (blk_cell BK833.out 1).trans rfl, (blk_cell BK833.out 2).trans rfl, (blk_cell BK833.out 3).trans rfl, (blk_cell BK833.out 4).trans rfl, (blk_cell BK833.out 5).trans rfl⟩ (fun hHeld => ?_)
          clear hK K
          refine norm_ (a' := ?_) ?_ ?_
          rotate_left
          ·show Act.put _ (some 77) _ = _
           simp only [Act.put, List.setIfInBounds_toArray, List.set_cons_zero, List.set_cons_succ, i64_w, i32_w]
           rfl
          refine one_ (i := 7) (N := none) #[true, true, true, true, true, true, true, true] rfl rfl (one_of HT_.out (by kernel_rfl)) (by decide) (fun K hK => ?_)
          have hs76 : w75.cell? ⟨gb835, 0, none⟩ = some (.int .i64 0) := (blk_cell BK835.out 0).trans rfl
          have hfs76 := blk_frozen BK835.out 0
          have hns76_0 := NB833_835.out
          have hns76_1 := NB834_835.out
          have hms76_0 := NB835_833.out
          have hms76_1 := NB835_834.out
          have hs77 : w75.cell? ⟨gb835, 1, none⟩ = some (.bool false) := (blk_cell BK835.out 1).trans rfl
          have hfs77 := blk_frozen BK835.out 1
          have hns77_0 := NB833_835.out
          have hns77_1 := NB834_835.out
          have hms77_0 := NB835_833.out
          have hms77_1 := NB835_834.out
          have hs78 : w75.cell? ⟨gb835, 2, none⟩ = some (.int .i64 0) := (blk_cell BK835.out 2).trans rfl
          have hfs78 := blk_frozen BK835.out 2
          have hns78_0 := NB833_835.out
          have hns78_1 := NB834_835.out
          have hms78_0 := NB835_833.out
          have hms78_1 := NB835_834.out
          have hs79 : w75.cell? ⟨gb835, 3, none⟩ = some (.int .u64 0) := (blk_cell BK835.out 3).trans rfl
          have hfs79 := blk_frozen BK835.out 3
          have hns79_0 := NB833_835.out
          have hns79_1 := NB834_835.out
          have hms79_0 := NB835_833.out
          have hms79_1 := NB835_834.out
          have hs80 : w75.cell? ⟨gb835, 4, none⟩ = some (.int .u64 0) := (blk_cell BK835.out 4).trans rfl
          have hfs80 := blk_frozen BK835.out 4
          have hns80_0 := NB833_835.out
          have hns80_1 := NB834_835.out
          have hms80_0 := NB835_833.out
          have hms80_1 := NB835_834.out
          have hs81 : w75.cell? ⟨gb835, 5, none⟩ = some (.bool false) := (blk_cell BK835.out 5).trans rfl
          have hfs81 := blk_frozen BK835.out 5
          have hns81_0 := NB833_835.out
          have hns81_1 := NB834_835.out
          have hms81_0 := NB835_833.out
          have hms81_1 := NB835_834.out
          refine skip_ (w1 := ?_) (by rfl) rfl ?_ ?_
          rotate_left
          ·go_simp
           rfl
          refine hK.out _ _ ⟨((cell_far (p := ⟨gb835, _, none⟩) NB833_835.out _).trans (((cell_far (p := ⟨gb835, _, none⟩) NB833_835.out _).trans (((cell_far (p := ⟨gb835, _, none⟩) NB833_835.out _).trans (((cell_far (p := ⟨gb835, _, none⟩) NB833_835.out _).trans (((cell_far (p := ⟨gb835, _, none⟩) NB833_835.out _).trans (((cell_far (p := ⟨gb835, _, none⟩) NB833_835.out _).trans (hHeld.1)))))))))))), ((cell_far (p := ⟨gb835, _, none⟩) NB833_835.out _).trans (((cell_far (p := ⟨gb835, _, none⟩) NB833_835.out _).trans (((cell_far (p := ⟨gb835, _, none⟩) NB833_835.out _).trans (((cell_far (p := ⟨gb835, _, none⟩) NB833_835.out _).trans (((cell_far (p := ⟨gb835, _, none⟩) NB833_835.out _).trans (((cell_far (p := ⟨gb835, _, none⟩) NB833_835.out _).trans (hHeld.2.1)))))))))))), ((cell_far (p := ⟨gb835, _, none⟩) NB833_835.out _).trans (((cell_far (p := ⟨gb835, _, none⟩) NB833_835.out _).trans (((cell_far (p := ⟨gb835, _, none⟩) NB833_835.out _).trans (((cell_far (p := ⟨gb835, _, none⟩) NB833_835.out _).trans (((cell_far (p := ⟨gb835, _, none⟩) NB833_835.out _).trans (((cell_far (p := ⟨gb835, _, none⟩) NB833_835.out _).trans (hHeld.2.2.1)))))))))))), ((cell_far (p := ⟨gb835, _, none⟩) NB833_835.out _).trans (((cell_far (p := ⟨gb835, _, none⟩) NB833_835.out _).trans (((cell_far (p := ⟨gb835, _, none⟩) NB833_835.out _).trans (((cell_far (p := ⟨gb835, _, none⟩) NB833_835.out _).trans (((cell_far (p := ⟨gb835, _, none⟩) NB833_835.out _).trans (((cell_far (p := ⟨gb835, _, none⟩) NB833_835.out _).trans (hHeld.2.2.2.1)))))))))))), ((cell_far (p := ⟨gb835, _, none⟩) NB833_835.out _).trans (((cell_far (p := ⟨gb835, _, none⟩) NB833_835.out _).trans (((cell_far (p := ⟨gb835, _, none⟩) NB833_835.out _).trans (((cell_far (p := ⟨gb835, _, none⟩) NB833_835.out _).trans (((cell_far (p := ⟨gb835, _, none⟩) NB833_835.out _).trans (((cell_far (p := ⟨gb835, _, none⟩) NB833_835.out _).trans (hHeld.2.2.2.2.1)))))))))))), ((cell_far (p := ⟨gb835, _, none⟩) NB833_835.out _).trans (((cell_far (p := ⟨gb835, _, none⟩) NB833_835.out _).trans (((cell_far (p := ⟨gb835, _, none⟩) NB833_835.out _).trans (((cell_far (p := ⟨gb835, _, none⟩) NB833_835.out _).trans (((cell_far (p := ⟨gb835, _, none⟩) NB833_835.out _).trans (((cell_far (p := ⟨gb835, _, none⟩) NB833_835.out _).trans (hHeld.2.2.2.2.2))))))))))))⟩ (fun hHeld => ?_)
          clear hK K
          refine done_ (done_of HT_.out (by kernel_rfl)) ?_
          try go_wp2
          refine bodyPost_ret (results_cell_row rfl _ _ gb835 86 #[.int .i64 t857, .bool t858, .int .i64 t859, .int .u64 t860, .int .u64 t861, .bool t862] (0, 0) _ rfl (bkT BK835) Try.underlying86 rfl (by kernel_rfl)) rfl ?_
          exact ⟨reT, hbT⟩
         ·rw [if_neg c60] at H
          have c60b0 : (a0_1 == a1_1) = false := by simpa using c60
          (try (have c60b1 : decide (a0_1 = a1_1) = false := by simpa using c60))
          (try (have c60b2 : (a0_1 == a1_1) = false := by simpa using c60))
          (try (have c60b3 : ¬ (a0_1 = a1_1) := by simpa using c60))
          clear c60
          replace H := Option.bind_eq_some_iff.mp H
          obtain ⟨t863, A820, H⟩ := H
          try dsimp only at H
          have A82 := Aside0.mk A820
          clear A820
          by_cases c83 : t863 ≥ 0
          ·rw [if_pos c83] at H
           have c83b0 : decide (0 ≤ t863) = true := decide_eq_true c83
           clear c83
           replace H := Option.bind_eq_some_iff.mp H
           obtain ⟨t864, A840, H⟩ := H
           try dsimp only at H
           have A84 := Aside0.mk A840
           clear A840
           replace H := Option.bind_eq_some_iff.mp H
           obtain ⟨⟨t867, t868, t869, t870, t871, t872⟩, A850, H⟩ := H
           try dsimp only at H
           have A85 := Aside0.mk A850
           clear A850
           simp only [Option.some.injEq, Prod.mk.injEq] at H
           obtain ⟨rfl, rfl, rfl, rfl, rfl, rfl⟩ := H
           obtain ⟨Ao86, co86, eo86⟩ := Kd.R_slice HO_5.out
           subst eo86
           try go_wp2_with (first | ((with_reducible refine gate_callee (f := 114) rfl ?_); refine goesL_ (some 60) rfl rfl Try.func114 (by kernel_rfl) rfl #[.slice Ao86 t842.length co86, .int .i64 x7_44] rfl (by (try simp only [List.map_toArray, List.map_cons, List.map_nil]); first | done | rfl | (simp only [List.length_drop, List.length_take]; rfl)) ?_; (with_reducible refine (vernierref04_Shl.calls kj44 _ _ t842 x7_44 t851 _ ?side1 ?side2 A59.out).mono ?_); (case side1 => repeat (first | exact (Kd.R_reads' HO_5.out).2.2 | (with_reducible refine Kd.C_alloc ?_ _) | (with_reducible refine Kd.C_drewN ?_ _) | (with_reducible refine Kd.C_drew ?_))); (case side2 => exact (Kd.R_reads' HO_5.out).2.1); rintro e w87 ⟨v852, rfl, ho0, hb⟩; refine ⟨_, rfl, ?_⟩; have n0_ := Aside0.mk (Kd.R_elder' (by (with_reducible repeat (first | apply Kd.R_alloc | apply Kd.R_drewN | apply Kd.R_drew)); exact HO_5.out) (Kd.R_base ho0) hb); have n1_ := Aside0.mk (Kd.R_elder' (by (with_reducible repeat (first | apply Kd.R_alloc | apply Kd.R_drewN | apply Kd.R_drew)); exact HO_6.out) (Kd.R_base ho0) hb); have n2_ := Aside0.mk (Kd.R_lower (Kd.R_new' (Kd.R_new' ho0 (Kd.R_lt (by (with_reducible repeat (first | apply Kd.R_alloc | apply Kd.R_drewN | apply Kd.R_drew)); exact HO_5.out))) (Kd.R_lt (by (with_reducible repeat (first | apply Kd.R_alloc | apply Kd.R_drewN | apply Kd.R_drew)); exact HO_6.out))) (below_size hbT)); have n3_ := bkB BK833 hb; have n4_ := bkB BK834 hb; have n5_ := bkB BK835 hb; have n6_ := hbS hb; clear HO_5; clear HO_6; clear BK833; clear BK834; clear BK835; clear HB; have HO_5 := n0_; have HO_6 := n1_; have HO853 := n2_; have BK833 := n3_; have BK834 := n4_; have BK835 := n5_; have HB := n6_; clear n0_ n1_ n2_ n3_ n4_ n5_ n6_; (try clear hb); (try clear hb2); (try clear hk); (try clear hi); (try clear ho0); have hnb88 := NB833_834.out; have hnc88 := NB834_833.out; have hnb89 := NB833_835.out; have hnc89 := NB835_833.out; obtain ⟨z90_0, z90_1, z90_2, z90_3, z90_4, z90_5, y90_0, y90_1, y90_2, y90_3, y90_4, y90_5⟩ := cz6 BK833; have hnb91 := NB834_835.out; have hnc91 := NB835_834.out; obtain ⟨z92_0, z92_1, z92_2, z92_3, z92_4, z92_5, y92_0, y92_1, y92_2, y92_3, y92_4, y92_5⟩ := cz6 BK834; obtain ⟨Ao93, co93, eo93⟩ := Kd.R_slice HO853.out; subst eo93; obtain ⟨Ao94, co94, eo94⟩ := Kd.R_slice HO_6.out; subst eo94) | ((with_reducible refine gate_callee (f := 117) rfl ?_); refine goesL_ (some 80) rfl rfl Try.func117 (by kernel_rfl) rfl #[.slice Ao93 t851.length co93, .slice Ao94 x6_44.length co94] rfl (by (try simp only [List.map_toArray, List.map_cons, List.map_nil]); first | done | rfl | (simp only [List.length_drop, List.length_take]; rfl)) ?_; (with_reducible refine (vernierref04_Cmp.calls kj44 _ _ t851 _ _ x6_44 t863 _ ?side1 ?side2 ?side3 ?side4 A82.out).mono ?_); (case side1 => repeat (first | exact (Kd.R_reads' HO853.out).2.2 | (with_reducible refine Kd.C_alloc ?_ _) | (with_reducible refine Kd.C_drewN ?_ _) | (with_reducible refine Kd.C_drew ?_))); (case side2 => exact (Kd.R_reads' HO853.out).2.1); (case side3 => repeat (first | exact (Kd.R_reads' HO_6.out).2.2 | (with_reducible refine Kd.C_alloc ?_ _) | (with_reducible refine Kd.C_drewN ?_ _) | (with_reducible refine Kd.C_drew ?_))); (case side4 => exact (Kd.R_reads' HO_6.out).2.1); rintro e w' ⟨rfl, ⟨nd, rfl⟩⟩; refine ⟨_, rfl, ?_⟩; (try (rw [drewN_self w87]; generalize hq_ : World.drewN w87 _ = w87; have n0_ : Aside0 (Kd.R (Kd.int .i64) 3 w87 w.heap.size (fun k_ => some k_ ≠ (.slice Ao86 t842.length co86 : Value).ownBlock ∧ some k_ ≠ (.slice Ao94 x6_44.length co94 : Value).ownBlock) (.slice Ao93 t851.length co93) t851) := ⟨by rw [← hq_]; exact (by (with_reducible repeat (first | apply Kd.R_alloc | apply Kd.R_drewN | apply Kd.R_drew)); exact Kd.R_mono HO853.out (fun _ hk => ⟨hk.1.2, hk.2⟩))⟩; have n1_ : Aside0 (Kd.R (Kd.int .i64) 3 w87 w.heap.size (fun k_ => some k_ ≠ (.slice Ao93 t851.length co93 : Value).ownBlock ∧ some k_ ≠ (.slice Ao94 x6_44.length co94 : Value).ownBlock) (.slice Ao86 t842.length co86) t842) := ⟨by rw [← hq_]; exact (by (with_reducible repeat (first | apply Kd.R_alloc | apply Kd.R_drewN | apply Kd.R_drew)); exact Kd.R_mono HO_5.out (fun _ hk => ⟨hk.2, hk.1⟩))⟩; have n2_ : Aside0 (Kd.R (Kd.int .i64) 3 w87 w.heap.size (fun k_ => some k_ ≠ (.slice Ao93 t851.length co93 : Value).ownBlock ∧ some k_ ≠ (.slice Ao86 t842.length co86 : Value).ownBlock) (.slice Ao94 x6_44.length co94) x6_44) := ⟨by rw [← hq_]; exact (by (with_reducible repeat (first | apply Kd.R_alloc | apply Kd.R_drewN | apply Kd.R_drew)); exact Kd.R_mono HO_6.out (fun _ hk => ⟨hk.2, hk.1⟩))⟩; have n3_ : Aside0 (w87.heap[gb833]? = some (.cells #[.int .i64 a0_0, .bool a0_1, .int .i64 a0_2, .int .u64 a0_3, .int .u64 a0_4, .bool a0_5] 86 (0, 0))) := ⟨by rw [← hq_]; exact (bkT BK833)⟩; have n4_ : Aside0 (w87.heap[gb834]? = some (.cells #[.int .i64 a1_0, .bool a1_1, .int .i64 a1_2, .int .u64 a1_3, .int .u64 a1_4, .bool a1_5] 86 (0, 0))) := ⟨by rw [← hq_]; exact (bkT BK834)⟩; have n5_ : Aside0 (w87.heap[gb835]? = some (.cells #[.int .i64 0, .bool false, .int .i64 0, .int .u64 0, .int .u64 0, .bool false] 86 (0, 0))) := ⟨by rw [← hq_]; exact (bkT BK835)⟩; have n6_ : Aside0 (Below w.heap.size w w87) := ⟨by rw [← hq_]; exact hbT⟩; clear HO853 HO_5 HO_6 BK833 BK834 BK835 HB hq_; have HO853 := n0_; have HO_5 := n1_; have HO_6 := n2_; have BK833 := n3_; have BK834 := n4_; have BK835 := n5_; have HB := n6_; clear n0_ n1_ n2_ n3_ n4_ n5_ n6_))))
           have n0_ := Aside0.mk (Kd.R_drew HO_5.out)
           have n1_ := Aside0.mk (Kd.R_drew HO_6.out)
           have n2_ := Aside0.mk (Kd.R_drew HO853.out)
           have n3_ := Aside0.mk (blk_drew BK833.out)
           have n4_ := Aside0.mk (blk_drew BK834.out)
           have n5_ := Aside0.mk (blk_drew BK835.out)
           have n6_ := Aside0.mk (below_drew1 HB.out)
           clear HO_5
           clear HO_6
           clear HO853
           clear BK833
           clear BK834
           clear BK835
           clear HB
           have HO_5 := n0_
           have HO_6 := n1_
           have HO853 := n2_
           have BK833 := n3_
           have BK834 := n4_
           have BK835 := n5_
           have HB := n6_
           clear n0_ n1_ n2_ n3_ n4_ n5_ n6_
           refine start_ (n := 8) (S := fun w' => w'.cell? ⟨gb833, 0, none⟩ = some (.int .i64 a0_0) ∧ w'.cell? ⟨gb833, 1, none⟩ = some (.bool a0_1) ∧ w'.cell? ⟨gb833, 2, none⟩ = some (.int .i64 a0_2) ∧ w'.cell? ⟨gb833, 3, none⟩ = some (.int .u64 a0_3) ∧ w'.cell? ⟨gb833, 4, none⟩ = some (.int .u64 a0_4) ∧ w'.cell? ⟨gb833, 5, none⟩ = some (.bool a0_5)) (ds := []) #[false, false, false, false, false, false, false, false] (by kernel_rfl) rfl rfl ⟨(blk_cell BK833.out 0).trans rfl, (blk_cell BK833.out 1).trans rfl, (blk_cell BK833.out 2).trans rfl, (blk_cell BK833.out 3).trans rfl, (blk_cell BK833.out 4).trans rfl, (blk_cell BK833.out 5).trans rfl⟩ (fun hHeld => ?_); refine with_tabW vernierref09_Sum.tab20 vernierref09_Sum.bits20 (fun HT_ HW_ => ?_)
           generalize w87.drew = w95 at HO_5 HO_6 HO853 BK833 BK834 BK835 HB hHeld ⊢
           refine pure_ (i := 0) (N := some 82) (v := ?_) (a' := ?_) #[true, false, false, false, false, false, false, false] rfl rfl (any_of HT_.out (by kernel_rfl)) (fun _ _ _ h => h) (Or.inl ⟨by rfl, ?_⟩) ?_ ?_
           rotate_left
           ·intro w'
            go_simp
            with_reducible rfl
           rotate_left
           ·simp only [Act.put, List.setIfInBounds_toArray, List.set_cons_zero, List.set_cons_succ, i64_w, i32_w]
            rfl
           refine pure_ (i := 2) (N := some 84) (v := ?_) (a' := ?_) #[true, false, true, false, false, false, false, false] rfl rfl (any_of HT_.out (by kernel_rfl)) (fun _ _ _ h => h) (Or.inl ⟨by rfl, ?_⟩) ?_ ?_
           rotate_left
           ·intro w'
            go_simp
            with_reducible rfl
           rotate_left
           ·simp only [Act.put, List.setIfInBounds_toArray, List.set_cons_zero, List.set_cons_succ, i64_w, i32_w]
            rfl
           refine pure_ (i := 3) (N := some 85) (v := ?_) (a' := ?_) #[true, false, true, true, false, false, false, false] rfl rfl (any_of HT_.out (by kernel_rfl)) (fun _ _ _ h => h) (Or.inl ⟨by rfl, ?_⟩) ?_ ?_
           rotate_left
           ·intro w'
            go_simp
            with_reducible rfl
           rotate_left
           ·simp only [Act.put, List.setIfInBounds_toArray, List.set_cons_zero, List.set_cons_succ, i64_w, i32_w]
            rfl
           refine pure_ (i := 5) (N := some 87) (v := ?_) (a' := ?_) #[true, false, true, true, false, true, false, false] rfl rfl (any_of HT_.out (by kernel_rfl)) (fun _ _ _ h => h) (Or.inl ⟨by rfl, ?_⟩) ?_ ?_
           rotate_left
           ·intro w'
            go_simp
            with_reducible rfl
           rotate_left
           ·simp only [Act.put, List.setIfInBounds_toArray, List.set_cons_zero, List.set_cons_succ, i64_w, i32_w]
            rfl
           refine take_ (i := 1) (N := some 83) (v := ?_) (a' := ?_) #[true, true, true, true, false, true, false, false] rfl rfl (take_ofW HT_.out HW_.out (by kernel_rfl)) (fun _ _ _ h => h) (Or.inl ⟨by rfl, ?_⟩) hHeld ?_ ?_
           rotate_left
           ·rintro w' ⟨s0, s1, s2, s3, s4, s5⟩
            go_simp
            with_reducible rfl
           rotate_left
           ·simp only [Act.put, List.setIfInBounds_toArray, List.set_cons_zero, List.set_cons_succ, i64_w, i32_w]
            rfl
           refine one_ (i := 4) (N := some 86) #[true, true, true, true, true, true, false, false] rfl rfl (one_of HT_.out (by kernel_rfl)) (by decide) (fun K hK => ?_)
           refine goes_ Try.func118 (by kernel_rfl) rfl #[.slice Ao93 t851.length co93, .slice Ao94 x6_44.length co94] (by rfl) rfl rfl (by (try simp only [List.map_toArray, List.map_cons, List.map_nil]); first | done | rfl | (simp only [List.length_drop, List.length_take]; rfl)) ?_
           with_reducible refine (vernierref04_Sub.calls kj44 _ _ t851 _ _ x6_44 t864 _ ?side1 ?side2 ?side3 ?side4 A84.out).mono ?_
           (case side1 => repeat (first | exact (Kd.R_reads' HO853.out).2.2 | (with_reducible refine Kd.C_alloc ?_ _) | (with_reducible refine Kd.C_drewN ?_ _) | (with_reducible refine Kd.C_drew ?_)))
           (case side2 => exact (Kd.R_reads' HO853.out).2.1)
           (case side3 => repeat (first | exact (Kd.R_reads' HO_6.out).2.2 | (with_reducible refine Kd.C_alloc ?_ _) | (with_reducible refine Kd.C_drewN ?_ _) | (with_reducible refine Kd.C_drew ?_)))
           (case side4 => exact (Kd.R_reads' HO_6.out).2.1)
           rintro e w96 ⟨v865, rfl, ho0, hb⟩
           refine ⟨_, rfl, ?_⟩
           have n0_ := Aside0.mk (Kd.R_elder' (by (with_reducible repeat (first | apply Kd.R_alloc | apply Kd.R_drewN | apply Kd.R_drew)); exact HO_5.out) (Kd.R_base ho0) hb)
           have n1_ := Aside0.mk (Kd.R_elder' (by (with_reducible repeat (first | apply Kd.R_alloc | apply Kd.R_drewN | apply Kd.R_drew)); exact HO_6.out) (Kd.R_base ho0) hb)
           have n2_ := Aside0.mk (Kd.R_elder' (by (with_reducible repeat (first | apply Kd.R_alloc | apply Kd.R_drewN | apply Kd.R_drew)); exact HO853.out) (Kd.R_base ho0) hb)
           have n3_ := Aside0.mk (Kd.R_lower (Kd.R_new' (Kd.R_new' (Kd.R_new' ho0 (Kd.R_lt (by (with_reducible repeat (first | apply Kd.R_alloc | apply Kd.R_drewN | apply Kd.R_drew)); exact HO_5.out))) (Kd.R_lt (by (with_reducible repeat (first | apply Kd.R_alloc | apply Kd.R_drewN | apply Kd.R_drew)); exact HO_6.out))) (Kd.R_lt (by (with_reducible repeat (first | apply Kd.R_alloc | apply Kd.R_drewN | apply Kd.R_drew)); exact HO853.out))) (below_size hbT))
           have n4_ := bkB BK833 hb
           have n5_ := bkB BK834 hb
           have n6_ := bkB BK835 hb
           have n7_ := hbS hb
           clear HO_5
           clear HO_6
           clear HO853
           clear BK833
           clear BK834
           clear BK835
           clear HB
           have HO_5 := n0_
           have HO_6 := n1_
           have HO853 := n2_
           have HO866 := n3_
           have BK833 := n4_
           have BK834 := n5_
           have BK835 := n6_
           have HB := n7_
           clear n0_ n1_ n2_ n3_ n4_ n5_ n6_ n7_
           (try clear hb)
           (try clear hb2)
           (try clear hk)
           (try clear hi)
           (try clear ho0)
           obtain ⟨Ao97, co97, eo97⟩ := Kd.R_slice HO866.out
           (first | subst eo97 | (injection eo97 with f1_ f2_ f3_; have f4_ := f1_.symm; have f5_ := f3_.symm; clear f1_ f2_ f3_; subst f4_; subst f5_))
           refine hK.out _ _ ⟨(blk_cell BK833.out 0).trans rfl, (blk_cell BK833.out 1).trans rfl, (blk_cell BK833.out 2).trans rfl, (blk_cell BK833.out 3).trans rfl, (blk_cell BK833.out 4).trans rfl, (blk_cell BK833.out 5).trans rfl⟩ (fun hHeld => ?_)
           clear hK K
           refine norm_ (a' := ?_) ?_ ?_
           rotate_left
           ·show Act.put _ (some 86) _ = _
            simp only [Act.put, List.setIfInBounds_toArray, List.set_cons_zero, List.set_cons_succ, i64_w, i32_w]
            rfl
           refine one_ (i := 6) (N := some 88) #[true, true, true, true, true, true, true, false] rfl rfl (one_of HT_.out (by kernel_rfl)) (by decide) (fun K hK => ?_)
           refine goes_ Try.func115 (by kernel_rfl) rfl #[.bool a0_1, .slice Ao97 t864.length co97, .int .i64 (wrap64 ((wrap64 (a0_2 - 127)) - x7_44)), .bool false] (by rfl) rfl rfl (by (try simp only [List.map_toArray, List.map_cons, List.map_nil]); first | done | rfl | (simp only [List.length_drop, List.length_take]; rfl)) ?_
           with_reducible refine (vernierref07_Exactly.calls kj44 a0_1 (fun k_ => some k_ = (.slice Ao97 t864.length co97 : Value).ownBlock) (.slice Ao97 t864.length co97) t864 (wrap64 ((wrap64 (a0_2 - 127)) - x7_44)) false t867 t868 t869 t870 t871 t872 w _ ?side1 ?side2 A85.out).mono ?_
           (case side1 => repeat (first | (with_reducible first | exact HB.out | apply below_alloc | apply pw_below_drewN | apply below_drew1 | refine below_set ?_ GE833.out | refine below_set ?_ GE834.out | refine below_set ?_ GE835.out) | exact HB.out))
           (case side2 => exact Kd.R_tight rfl HO866.out)
           rintro e w98 ⟨rfl, hb, hkp⟩
           refine ⟨_, rfl, ?_⟩
           have n0_ := Aside0.mk (Kd.R_mono (ok' := fun k_ => some k_ ≠ (.slice Ao94 x6_44.length co94 : Value).ownBlock ∧ some k_ ≠ (.slice Ao93 t851.length co93 : Value).ownBlock) (Kd.R_keptB (HO_5.out) hkp (fun k_ hk_ hs_ => (hk_.2) hs_)) (fun k_ hk_ => (by refine ⟨?_, ?_⟩ <;> first | exact hk_.1.1.1 | exact hk_.1.1.2 | exact hk_.1.2 | exact hk_.2 | exact hk_.1.1.1.1 | exact hk_.1.1.1.2 | exact hk_.1.1 | exact hk_.1.1.2.1 | exact hk_.1.1.2.2)))
           have n1_ := Aside0.mk (Kd.R_mono (ok' := fun k_ => some k_ ≠ (.slice Ao86 t842.length co86 : Value).ownBlock ∧ some k_ ≠ (.slice Ao93 t851.length co93 : Value).ownBlock) (Kd.R_keptB (HO_6.out) hkp (fun k_ hk_ hs_ => (hk_.2) hs_)) (fun k_ hk_ => (by refine ⟨?_, ?_⟩ <;> first | exact hk_.1.1.1 | exact hk_.1.1.2 | exact hk_.1.2 | exact hk_.2 | exact hk_.1.1.1.1 | exact hk_.1.1.1.2 | exact hk_.1.1 | exact hk_.1.1.2.1 | exact hk_.1.1.2.2)))
           have n2_ := Aside0.mk (blk_kept (bkT BK833) hkp (fun hs_ => (fun e_ => (Kd.R_ne HO866.out BK833.out (by decide)) e_) hs_))
           have n3_ := Aside0.mk (blk_kept (bkT BK834) hkp (fun hs_ => (fun e_ => (Kd.R_ne HO866.out BK834.out (by decide)) e_) hs_))
           have n4_ := Aside0.mk (blk_kept (bkT BK835) hkp (fun hs_ => (fun e_ => (Kd.R_ne HO866.out BK835.out (by decide)) e_) hs_))
           have n5_ := Aside0.mk (Kd.R_mono (ok' := fun k_ => some k_ ≠ (.slice Ao86 t842.length co86 : Value).ownBlock ∧ some k_ ≠ (.slice Ao94 x6_44.length co94 : Value).ownBlock) (Kd.R_keptB (HO853.out) hkp (fun k_ hk_ hs_ => (hk_.2) hs_)) (fun k_ hk_ => (by refine ⟨?_, ?_⟩ <;> first | exact hk_.1.1.1 | exact hk_.1.1.2 | exact hk_.1.2 | exact hk_.2 | exact hk_.1.1.1.1 | exact hk_.1.1.1.2 | exact hk_.1.1 | exact hk_.1.1.2.1 | exact hk_.1.1.2.2)))
           have n6_ := Aside0.mk (hb)
           clear HO_5
           clear HO_6
           clear BK833
           clear BK834
           clear BK835
           clear HO853
           clear HB
           clear HO866
           have HO_5 := n0_
           have HO_6 := n1_
           have BK833 := n2_
           have BK834 := n3_
           have BK835 := n4_
           have HO853 := n5_
           have HB := n6_
           clear n0_ n1_ n2_ n3_ n4_ n5_ n6_
           (try clear hb)
           (try clear hkp)
           refine hK.out _ _ ⟨(blk_cell BK833.out 0).trans rfl, (blk_cell BK833.out 1).trans rfl, (blk_cell BK833.out 2).trans rfl, (blk_cell BK833.out 3).trans rfl, (blk_cell BK833.out 4).trans rfl, (blk_cell BK833.out 5).trans rfl⟩ (fun hHeld => ?_)
           clear hK K
           refine norm_ (a' := ?_) ?_ ?_
           rotate_left
           ·show Act.put _ (some 88) _ = _
            simp only [Act.put, List.setIfInBounds_toArray, List.set_cons_zero, List.set_cons_succ, i64_w, i32_w]
            rfl
           refine one_ (i := 7) (N := none) #[true, true, true, true, true, true, true, true] rfl rfl (one_of HT_.out (by kernel_rfl)) (by decide) (fun K hK => ?_)
           have hs99 : w98.cell? ⟨gb835, 0, none⟩ = some (.int .i64 0) := (blk_cell BK835.out 0).trans rfl
           have hfs99 := blk_frozen BK835.out 0
           have hns99_0 := NB833_835.out
           have hns99_1 := NB834_835.out
           have hms99_0 := NB835_833.out
           have hms99_1 := NB835_834.out
           have hs100 : w98.cell? ⟨gb835, 1, none⟩ = some (.bool false) := (blk_cell BK835.out 1).trans rfl
           have hfs100 := blk_frozen BK835.out 1
           have hns100_0 := NB833_835.out
           have hns100_1 := NB834_835.out
           have hms100_0 := NB835_833.out
           have hms100_1 := NB835_834.out
           have hs101 : w98.cell? ⟨gb835, 2, none⟩ = some (.int .i64 0) := (blk_cell BK835.out 2).trans rfl
           have hfs101 := blk_frozen BK835.out 2
           have hns101_0 := NB833_835.out
           have hns101_1 := NB834_835.out
           have hms101_0 := NB835_833.out
           have hms101_1 := NB835_834.out
           have hs102 : w98.cell? ⟨gb835, 3, none⟩ = some (.int .u64 0) := (blk_cell BK835.out 3).trans rfl
           have hfs102 := blk_frozen BK835.out 3
           have hns102_0 := NB833_835.out
           have hns102_1 := NB834_835.out
           have hms102_0 := NB835_833.out
           have hms102_1 := NB835_834.out
           have hs103 : w98.cell? ⟨gb835, 4, none⟩ = some (.int .u64 0) := (blk_cell BK835.out 4).trans rfl
           have hfs103 := blk_frozen BK835.out 4
           have hns103_0 := NB833_835.out
           have hns103_1 := NB834_835.out
           have hms103_0 := NB835_833.out
           have hms103_1 := NB835_834.out
           have hs104 : w98.cell? ⟨gb835, 5, none⟩ = some (.bool false) := (blk_cell BK835.out 5).trans rfl
           have hfs104 := blk_frozen BK835.out 5
           have hns104_0 := NB833_835.out
           have hns104_1 := NB834_835.out
           have hms104_0 := NB835_833.out
           have hms104_1 := NB835_834.out
           refine skip_ (w1 := ?_) (by rfl) rfl ?_ ?_
           rotate_left
           ·go_simp
            rfl
           refine hK.out _ _ ⟨((cell_far (p := ⟨gb835, _, none⟩) NB833_835.out _).trans (((cell_far (p := ⟨gb835, _, none⟩) NB833_835.out _).trans (((cell_far (p := ⟨gb835, _, none⟩) NB833_835.out _).trans (((cell_far (p := ⟨gb835, _, none⟩) NB833_835.out _).trans (((cell_far (p := ⟨gb835, _, none⟩) NB833_835.out _).trans (((cell_far (p := ⟨gb835, _, none⟩) NB833_835.out _).trans (hHeld.1)))))))))))), ((cell_far (p := ⟨gb835, _, none⟩) NB833_835.out _).trans (((cell_far (p := ⟨gb835, _, none⟩) NB833_835.out _).trans (((cell_far (p := ⟨gb835, _, none⟩) NB833_835.out _).trans (((cell_far (p := ⟨gb835, _, none⟩) NB833_835.out _).trans (((cell_far (p := ⟨gb835, _, none⟩) NB833_835.out _).trans (((cell_far (p := ⟨gb835, _, none⟩) NB833_835.out _).trans (hHeld.2.1)))))))))))), ((cell_far (p := ⟨gb835, _, none⟩) NB833_835.out _).trans (((cell_far (p := ⟨gb835, _, none⟩) NB833_835.out _).trans (((cell_far (p := ⟨gb835, _, none⟩) NB833_835.out _).trans (((cell_far (p := ⟨gb835, _, none⟩) NB833_835.out _).trans (((cell_far (p := ⟨gb835, _, none⟩) NB833_835.out _).trans (((cell_far (p := ⟨gb835, _, none⟩) NB833_835.out _).trans (hHeld.2.2.1)))))))))))), ((cell_far (p := ⟨gb835, _, none⟩) NB833_835.out _).trans (((cell_far (p := ⟨gb835, _, none⟩) NB833_835.out _).trans (((cell_far (p := ⟨gb835, _, none⟩) NB833_835.out _).trans (((cell_far (p := ⟨gb835, _, none⟩) NB833_835.out _).trans (((cell_far (p := ⟨gb835, _, none⟩) NB833_835.out _).trans (((cell_far (p := ⟨gb835, _, none⟩) NB833_835.out _).trans (hHeld.2.2.2.1)))))))))))), ((cell_far (p := ⟨gb835, _, none⟩) NB833_835.out _).trans (((cell_far (p := ⟨gb835, _, none⟩) NB833_835.out _).trans (((cell_far (p := ⟨gb835, _, none⟩) NB833_835.out _).trans (((cell_far (p := ⟨gb835, _, none⟩) NB833_835.out _).trans (((cell_far (p := ⟨gb835, _, none⟩) NB833_835.out _).trans (((cell_far (p := ⟨gb835, _, none⟩) NB833_835.out _).trans (hHeld.2.2.2.2.1)))))))))))), ((cell_far (p := ⟨gb835, _, none⟩) NB833_835.out _).trans (((cell_far (p := ⟨gb835, _, none⟩) NB833_835.out _).trans (((cell_far (p := ⟨gb835, _, none⟩) NB833_835.out _).trans (((cell_far (p := ⟨gb835, _, none⟩) NB833_835.out _).trans (((cell_far (p := ⟨gb835, _, none⟩) NB833_835.out _).trans (((cell_far (p := ⟨gb835, _, none⟩) NB833_835.out _).trans (hHeld.2.2.2.2.2))))))))))))⟩ (fun hHeld => ?_)
           clear hK K
           refine done_ (done_of HT_.out (by kernel_rfl)) ?_
           try go_wp2
           refine bodyPost_ret (results_cell_row rfl _ _ gb835 86 #[.int .i64 t867, .bool t868, .int .i64 t869, .int .u64 t870, .int .u64 t871, .bool t872] (0, 0) _ rfl (bkT BK835) Try.underlying86 rfl (by kernel_rfl)) rfl ?_
           exact ⟨reT, hbT⟩
          ·rw [if_neg c83] at H
           have c83b0 : decide (0 ≤ t863) = false := decide_eq_false c83
           clear c83
           replace H := Option.bind_eq_some_iff.mp H
           obtain ⟨t873, A1050, H⟩ := H
           try dsimp only at H
           have A105 := Aside0.mk A1050
           clear A1050
           replace H := Option.bind_eq_some_iff.mp H
           obtain ⟨⟨t876, t877, t878, t879, t880, t881⟩, A1060, H⟩ := H
           try dsimp only at H
           have A106 := Aside0.mk A1060
           clear A1060
           simp only [Option.some.injEq, Prod.mk.injEq] at H
           obtain ⟨rfl, rfl, rfl, rfl, rfl, rfl⟩ := H
           obtain ⟨Ao107, co107, eo107⟩ := Kd.R_slice HO_5.out
           subst eo107
           try go_wp2_with (first | ((with_reducible refine gate_callee (f := 114) rfl ?_); refine goesL_ (some 60) rfl rfl Try.func114 (by kernel_rfl) rfl #[.slice Ao107 t842.length co107, .int .i64 x7_44] rfl (by (try simp only [List.map_toArray, List.map_cons, List.map_nil]); first | done | rfl | (simp only [List.length_drop, List.length_take]; rfl)) ?_; (with_reducible refine (vernierref04_Shl.calls kj44 _ _ t842 x7_44 t851 _ ?side1 ?side2 A59.out).mono ?_); (case side1 => repeat (first | exact (Kd.R_reads' HO_5.out).2.2 | (with_reducible refine Kd.C_alloc ?_ _) | (with_reducible refine Kd.C_drewN ?_ _) | (with_reducible refine Kd.C_drew ?_))); (case side2 => exact (Kd.R_reads' HO_5.out).2.1); rintro e w108 ⟨v852, rfl, ho0, hb⟩; refine ⟨_, rfl, ?_⟩; have n0_ := Aside0.mk (Kd.R_elder' (by (with_reducible repeat (first | apply Kd.R_alloc | apply Kd.R_drewN | apply Kd.R_drew)); exact HO_5.out) (Kd.R_base ho0) hb); have n1_ := Aside0.mk (Kd.R_elder' (by (with_reducible repeat (first | apply Kd.R_alloc | apply Kd.R_drewN | apply Kd.R_drew)); exact HO_6.out) (Kd.R_base ho0) hb); have n2_ := Aside0.mk (Kd.R_lower (Kd.R_new' (Kd.R_new' ho0 (Kd.R_lt (by (with_reducible repeat (first | apply Kd.R_alloc | apply Kd.R_drewN | apply Kd.R_drew)); exact HO_5.out))) (Kd.R_lt (by (with_reducible repeat (first | apply Kd.R_alloc | apply Kd.R_drewN | apply Kd.R_drew)); exact HO_6.out))) (below_size hbT)); have n3_ := bkB BK833 hb; have n4_ := bkB BK834 hb; have n5_ := bkB BK835 hb; have n6_ := hbS hb; clear HO_5; clear HO_6; clear BK833; clear BK834; clear BK835; clear HB; have HO_5 := n0_; have HO_6 := n1_; have HO853 := n2_; have BK833 := n3_; have BK834 := n4_; have BK835 := n5_; have HB := n6_; clear n0_ n1_ n2_ n3_ n4_ n5_ n6_; (try clear hb); (try clear hb2); (try clear hk); (try clear hi); (try clear ho0); have hnb109 := NB833_834.out; have hnc109 := NB834_833.out; have hnb110 := NB833_835.out; have hnc110 := NB835_833.out; obtain ⟨z111_0, z111_1, z111_2, z111_3, z111_4, z111_5, y111_0, y111_1, y111_2, y111_3, y111_4, y111_5⟩ := cz6 BK833; have hnb112 := NB834_835.out; have hnc112 := NB835_834.out; obtain ⟨z113_0, z113_1, z113_2, z113_3, z113_4, z113_5, y113_0, y113_1, y113_2, y113_3, y113_4, y113_5⟩ := cz6 BK834; obtain ⟨Ao114, co114, eo114⟩ := Kd.R_slice HO853.out; subst eo114; obtain ⟨Ao115, co115, eo115⟩ := Kd.R_slice HO_6.out; subst eo115) | ((with_reducible refine gate_callee (f := 117) rfl ?_); refine goesL_ (some 80) rfl rfl Try.func117 (by kernel_rfl) rfl #[.slice Ao114 t851.length co114, .slice Ao115 x6_44.length co115] rfl (by (try simp only [List.map_toArray, List.map_cons, List.map_nil]); first | done | rfl | (simp only [List.length_drop, List.length_take]; rfl)) ?_; (with_reducible refine (vernierref04_Cmp.calls kj44 _ _ t851 _ _ x6_44 t863 _ ?side1 ?side2 ?side3 ?side4 A82.out).mono ?_); (case side1 => repeat (first | exact (Kd.R_reads' HO853.out).2.2 | (with_reducible refine Kd.C_alloc ?_ _) | (with_reducible refine Kd.C_drewN ?_ _) | (with_reducible refine Kd.C_drew ?_))); (case side2 => exact (Kd.R_reads' HO853.out).2.1); (case side3 => repeat (first | exact (Kd.R_reads' HO_6.out).2.2 | (with_reducible refine Kd.C_alloc ?_ _) | (with_reducible refine Kd.C_drewN ?_ _) | (with_reducible refine Kd.C_drew ?_))); (case side4 => exact (Kd.R_reads' HO_6.out).2.1); rintro e w' ⟨rfl, ⟨nd, rfl⟩⟩; refine ⟨_, rfl, ?_⟩; (try (rw [drewN_self w108]; generalize hq_ : World.drewN w108 _ = w108; have n0_ : Aside0 (Kd.R (Kd.int .i64) 3 w108 w.heap.size (fun k_ => some k_ ≠ (.slice Ao107 t842.length co107 : Value).ownBlock ∧ some k_ ≠ (.slice Ao115 x6_44.length co115 : Value).ownBlock) (.slice Ao114 t851.length co114) t851) := ⟨by rw [← hq_]; exact (by (with_reducible repeat (first | apply Kd.R_alloc | apply Kd.R_drewN | apply Kd.R_drew)); exact Kd.R_mono HO853.out (fun _ hk => ⟨hk.1.2, hk.2⟩))⟩; have n1_ : Aside0 (Kd.R (Kd.int .i64) 3 w108 w.heap.size (fun k_ => some k_ ≠ (.slice Ao114 t851.length co114 : Value).ownBlock ∧ some k_ ≠ (.slice Ao115 x6_44.length co115 : Value).ownBlock) (.slice Ao107 t842.length co107) t842) := ⟨by rw [← hq_]; exact (by (with_reducible repeat (first | apply Kd.R_alloc | apply Kd.R_drewN | apply Kd.R_drew)); exact Kd.R_mono HO_5.out (fun _ hk => ⟨hk.2, hk.1⟩))⟩; have n2_ : Aside0 (Kd.R (Kd.int .i64) 3 w108 w.heap.size (fun k_ => some k_ ≠ (.slice Ao114 t851.length co114 : Value).ownBlock ∧ some k_ ≠ (.slice Ao107 t842.length co107 : Value).ownBlock) (.slice Ao115 x6_44.length co115) x6_44) := ⟨by rw [← hq_]; exact (by (with_reducible repeat (first | apply Kd.R_alloc | apply Kd.R_drewN | apply Kd.R_drew)); exact Kd.R_mono HO_6.out (fun _ hk => ⟨hk.2, hk.1⟩))⟩; have n3_ : Aside0 (w108.heap[gb833]? = some (.cells #[.int .i64 a0_0, .bool a0_1, .int .i64 a0_2, .int .u64 a0_3, .int .u64 a0_4, .bool a0_5] 86 (0, 0))) := ⟨by rw [← hq_]; exact (bkT BK833)⟩; have n4_ : Aside0 (w108.heap[gb834]? = some (.cells #[.int .i64 a1_0, .bool a1_1, .int .i64 a1_2, .int .u64 a1_3, .int .u64 a1_4, .bool a1_5] 86 (0, 0))) := ⟨by rw [← hq_]; exact (bkT BK834)⟩; have n5_ : Aside0 (w108.heap[gb835]? = some (.cells #[.int .i64 0, .bool false, .int .i64 0, .int .u64 0, .int .u64 0, .bool false] 86 (0, 0))) := ⟨by rw [← hq_]; exact (bkT BK835)⟩; have n6_ : Aside0 (Below w.heap.size w w108) := ⟨by rw [← hq_]; exact hbT⟩; clear HO853 HO_5 HO_6 BK833 BK834 BK835 HB hq_; have HO853 := n0_; have HO_5 := n1_; have HO_6 := n2_; have BK833 := n3_; have BK834 := n4_; have BK835 := n5_; have HB := n6_; clear n0_ n1_ n2_ n3_ n4_ n5_ n6_))))
           have n0_ := Aside0.mk (Kd.R_drew HO_5.out)
           have n1_ := Aside0.mk (Kd.R_drew HO_6.out)
           have n2_ := Aside0.mk (Kd.R_drew HO853.out)
           have n3_ := Aside0.mk (blk_drew BK833.out)
           have n4_ := Aside0.mk (blk_drew BK834.out)
           have n5_ := Aside0.mk (blk_drew BK835.out)
           have n6_ := Aside0.mk (below_drew1 HB.out)
           clear HO_5
           clear HO_6
           clear HO853
           clear BK833
           clear BK834
           clear BK835
           clear HB
           have HO_5 := n0_
           have HO_6 := n1_
           have HO853 := n2_
           have BK833 := n3_
           have BK834 := n4_
           have BK835 := n5_
           have HB := n6_
           clear n0_ n1_ n2_ n3_ n4_ n5_ n6_
           refine start_ (n := 8) (S := fun w' => w'.cell? ⟨gb834, 0, none⟩ = some (.int .i64 a1_0) ∧ w'.cell? ⟨gb834, 1, none⟩ = some (.bool a1_1) ∧ w'.cell? ⟨gb834, 2, none⟩ = some (.int .i64 a1_2) ∧ w'.cell? ⟨gb834, 3, none⟩ = some (.int .u64 a1_3) ∧ w'.cell? ⟨gb834, 4, none⟩ = some (.int .u64 a1_4) ∧ w'.cell? ⟨gb834, 5, none⟩ = some (.bool a1_5)) (ds := []) #[false, false, false, false, false, false, false, false] (by kernel_rfl) rfl rfl ⟨(blk_cell BK834.out 0).trans rfl, (blk_cell BK834.out 1).trans rfl, (blk_cell BK834.out 2).trans rfl, (blk_cell BK834.out 3).trans rfl, (blk_cell BK834.out 4).trans rfl, (blk_cell BK834.out 5).trans rfl⟩ (fun hHeld => ?_); refine with_tabW vernierref09_Sum.tab21 vernierref09_Sum.bits21 (fun HT_ HW_ => ?_)
           generalize w108.drew = w116 at HO_5 HO_6 HO853 BK833 BK834 BK835 HB hHeld ⊢
           refine pure_ (i := 0) (N := some 89) (v := ?_) (a' := ?_) #[true, false, false, false, false, false, false, false] rfl rfl (any_of HT_.out (by kernel_rfl)) (fun _ _ _ h => h) (Or.inl ⟨by rfl, ?_⟩) ?_ ?_
           rotate_left
           ·intro w'
            go_simp
            with_reducible rfl
           rotate_left
           ·simp only [Act.put, List.setIfInBounds_toArray, List.set_cons_zero, List.set_cons_succ, i64_w, i32_w]
            rfl
           refine pure_ (i := 2) (N := some 91) (v := ?_) (a' := ?_) #[true, false, true, false, false, false, false, false] rfl rfl (any_of HT_.out (by kernel_rfl)) (fun _ _ _ h => h) (Or.inl ⟨by rfl, ?_⟩) ?_ ?_
           rotate_left
           ·intro w'
            go_simp
            with_reducible rfl
           rotate_left
           ·simp only [Act.put, List.setIfInBounds_toArray, List.set_cons_zero, List.set_cons_succ, i64_w, i32_w]
            rfl
           refine pure_ (i := 3) (N := some 92) (v := ?_) (a' := ?_) #[true, false, true, true, false, false, false, false] rfl rfl (any_of HT_.out (by kernel_rfl)) (fun _ _ _ h => h) (Or.inl ⟨by rfl, ?_⟩) ?_ ?_
           rotate_left
           ·intro w'
            go_simp
            with_reducible rfl
           rotate_left
           ·simp only [Act.put, List.setIfInBounds_toArray, List.set_cons_zero, List.set_cons_succ, i64_w, i32_w]
            rfl
           refine pure_ (i := 5) (N := some 94) (v := ?_) (a' := ?_) #[true, false, true, true, false, true, false, false] rfl rfl (any_of HT_.out (by kernel_rfl)) (fun _ _ _ h => h) (Or.inl ⟨by rfl, ?_⟩) ?_ ?_
           rotate_left
           ·intro w'
            go_simp
            with_reducible rfl
           rotate_left
           ·simp only [Act.put, List.setIfInBounds_toArray, List.set_cons_zero, List.set_cons_succ, i64_w, i32_w]
            rfl
           refine take_ (i := 1) (N := some 90) (v := ?_) (a' := ?_) #[true, true, true, true, false, true, false, false] rfl rfl (take_ofW HT_.out HW_.out (by kernel_rfl)) (fun _ _ _ h => h) (Or.inl ⟨by rfl, ?_⟩) hHeld ?_ ?_
           rotate_left
           ·rintro w' ⟨s0, s1, s2, s3, s4, s5⟩
            go_simp
            with_reducible rfl
           rotate_left
           ·simp only [Act.put, List.setIfInBounds_toArray, List.set_cons_zero, List.set_cons_succ, i64_w, i32_w]
            rfl
           refine one_ (i := 4) (N := some 93) #[true, true, true, true, true, true, false, false] rfl rfl (one_of HT_.out (by kernel_rfl)) (by decide) (fun K hK => ?_)
           refine goes_ Try.func118 (by kernel_rfl) rfl #[.slice Ao115 x6_44.length co115, .slice Ao114 t851.length co114] (by rfl) rfl rfl (by (try simp only [List.map_toArray, List.map_cons, List.map_nil]); first | done | rfl | (simp only [List.length_drop, List.length_take]; rfl)) ?_
           with_reducible refine (vernierref04_Sub.calls kj44 _ _ x6_44 _ _ t851 t873 _ ?side1 ?side2 ?side3 ?side4 A105.out).mono ?_
           (case side1 => repeat (first | exact (Kd.R_reads' HO_6.out).2.2 | (with_reducible refine Kd.C_alloc ?_ _) | (with_reducible refine Kd.C_drewN ?_ _) | (with_reducible refine Kd.C_drew ?_)))
           (case side2 => exact (Kd.R_reads' HO_6.out).2.1)
           (case side3 => repeat (first | exact (Kd.R_reads' HO853.out).2.2 | (with_reducible refine Kd.C_alloc ?_ _) | (with_reducible refine Kd.C_drewN ?_ _) | (with_reducible refine Kd.C_drew ?_)))
           (case side4 => exact (Kd.R_reads' HO853.out).2.1)
           rintro e w117 ⟨v874, rfl, ho0, hb⟩
           refine ⟨_, rfl, ?_⟩
           have n0_ := Aside0.mk (Kd.R_elder' (by (with_reducible repeat (first | apply Kd.R_alloc | apply Kd.R_drewN | apply Kd.R_drew)); exact HO_5.out) (Kd.R_base ho0) hb)
           have n1_ := Aside0.mk (Kd.R_elder' (by (with_reducible repeat (first | apply Kd.R_alloc | apply Kd.R_drewN | apply Kd.R_drew)); exact HO_6.out) (Kd.R_base ho0) hb)
           have n2_ := Aside0.mk (Kd.R_elder' (by (with_reducible repeat (first | apply Kd.R_alloc | apply Kd.R_drewN | apply Kd.R_drew)); exact HO853.out) (Kd.R_base ho0) hb)
           have n3_ := Aside0.mk (Kd.R_lower (Kd.R_new' (Kd.R_new' (Kd.R_new' ho0 (Kd.R_lt (by (with_reducible repeat (first | apply Kd.R_alloc | apply Kd.R_drewN | apply Kd.R_drew)); exact HO_5.out))) (Kd.R_lt (by (with_reducible repeat (first | apply Kd.R_alloc | apply Kd.R_drewN | apply Kd.R_drew)); exact HO_6.out))) (Kd.R_lt (by (with_reducible repeat (first | apply Kd.R_alloc | apply Kd.R_drewN | apply Kd.R_drew)); exact HO853.out))) (below_size hbT))
           have n4_ := bkB BK833 hb
           have n5_ := bkB BK834 hb
           have n6_ := bkB BK835 hb
           have n7_ := hbS hb
           clear HO_5
           clear HO_6
           clear HO853
           clear BK833
           clear BK834
           clear BK835
           clear HB
           have HO_5 := n0_
           have HO_6 := n1_
           have HO853 := n2_
           have HO875 := n3_
           have BK833 := n4_
           have BK834 := n5_
           have BK835 := n6_
           have HB := n7_
           clear n0_ n1_ n2_ n3_ n4_ n5_ n6_ n7_
           (try clear hb)
           (try clear hb2)
           (try clear hk)
           (try clear hi)
           (try clear ho0)
           obtain ⟨Ao118, co118, eo118⟩ := Kd.R_slice HO875.out
           (first | subst eo118 | (injection eo118 with f1_ f2_ f3_; have f4_ := f1_.symm; have f5_ := f3_.symm; clear f1_ f2_ f3_; subst f4_; subst f5_))
           refine hK.out _ _ ⟨(blk_cell BK834.out 0).trans rfl, (blk_cell BK834.out 1).trans rfl, (blk_cell BK834.out 2).trans rfl, (blk_cell BK834.out 3).trans rfl, (blk_cell BK834.out 4).trans rfl, (blk_cell BK834.out 5).trans rfl⟩ (fun hHeld => ?_)
           clear hK K
           refine norm_ (a' := ?_) ?_ ?_
           rotate_left
           ·show Act.put _ (some 93) _ = _
            simp only [Act.put, List.setIfInBounds_toArray, List.set_cons_zero, List.set_cons_succ, i64_w, i32_w]
            rfl
           refine one_ (i := 6) (N := some 95) #[true, true, true, true, true, true, true, false] rfl rfl (one_of HT_.out (by kernel_rfl)) (by decide) (fun K hK => ?_)
           refine goes_ Try.func115 (by kernel_rfl) rfl #[.bool a1_1, .slice Ao118 t873.length co118, .int .i64 (wrap64 ((wrap64 (a0_2 - 127)) - x7_44)), .bool false] (by rfl) rfl rfl (by (try simp only [List.map_toArray, List.map_cons, List.map_nil]); first | done | rfl | (simp only [List.length_drop, List.length_take]; rfl)) ?_
           with_reducible refine (vernierref07_Exactly.calls kj44 a1_1 (fun k_ => some k_ = (.slice Ao118 t873.length co118 : Value).ownBlock) (.slice Ao118 t873.length co118) t873 (wrap64 ((wrap64 (a0_2 - 127)) - x7_44)) false t876 t877 t878 t879 t880 t881 w _ ?side1 ?side2 A106.out).mono ?_
           (case side1 => repeat (first | (with_reducible first | exact HB.out | apply below_alloc | apply pw_below_drewN | apply below_drew1 | refine below_set ?_ GE833.out | refine below_set ?_ GE834.out | refine below_set ?_ GE835.out) | exact HB.out))
           (case side2 => exact Kd.R_tight rfl HO875.out)
           rintro e w119 ⟨rfl, hb, hkp⟩
           refine ⟨_, rfl, ?_⟩
           have n0_ := Aside0.mk (Kd.R_mono (ok' := fun k_ => some k_ ≠ (.slice Ao115 x6_44.length co115 : Value).ownBlock ∧ some k_ ≠ (.slice Ao114 t851.length co114 : Value).ownBlock) (Kd.R_keptB (HO_5.out) hkp (fun k_ hk_ hs_ => (hk_.2) hs_)) (fun k_ hk_ => (by refine ⟨?_, ?_⟩ <;> first | exact hk_.1.1.1 | exact hk_.1.1.2 | exact hk_.1.2 | exact hk_.2 | exact hk_.1.1.1.1 | exact hk_.1.1.1.2 | exact hk_.1.1 | exact hk_.1.1.2.1 | exact hk_.1.1.2.2)))
           have n1_ := Aside0.mk (Kd.R_mono (ok' := fun k_ => some k_ ≠ (.slice Ao107 t842.length co107 : Value).ownBlock ∧ some k_ ≠ (.slice Ao114 t851.length co114 : Value).ownBlock) (Kd.R_keptB (HO_6.out) hkp (fun k_ hk_ hs_ => (hk_.2) hs_)) (fun k_ hk_ => (by refine ⟨?_, ?_⟩ <;> first | exact hk_.1.1.1 | exact hk_.1.1.2 | exact hk_.1.2 | exact hk_.2 | exact hk_.1.1.1.1 | exact hk_.1.1.1.2 | exact hk_.1.1 | exact hk_.1.1.2.1 | exact hk_.1.1.2.2)))
           have n2_ := Aside0.mk (blk_kept (bkT BK833) hkp (fun hs_ => (fun e_ => (Kd.R_ne HO875.out BK833.out (by decide)) e_) hs_))
           have n3_ := Aside0.mk (blk_kept (bkT BK834) hkp (fun hs_ => (fun e_ => (Kd.R_ne HO875.out BK834.out (by decide)) e_) hs_))
           have n4_ := Aside0.mk (blk_kept (bkT BK835) hkp (fun hs_ => (fun e_ => (Kd.R_ne HO875.out BK835.out (by decide)) e_) hs_))
           have n5_ := Aside0.mk (Kd.R_mono (ok' := fun k_ => some k_ ≠ (.slice Ao107 t842.length co107 : Value).ownBlock ∧ some k_ ≠ (.slice Ao115 x6_44.length co115 : Value).ownBlock) (Kd.R_keptB (HO853.out) hkp (fun k_ hk_ hs_ => (hk_.2) hs_)) (fun k_ hk_ => (by refine ⟨?_, ?_⟩ <;> first | exact hk_.1.1.1 | exact hk_.1.1.2 | exact hk_.1.2 | exact hk_.2 | exact hk_.1.1.1.1 | exact hk_.1.1.1.2 | exact hk_.1.1 | exact hk_.1.1.2.1 | exact hk_.1.1.2.2)))
           have n6_ := Aside0.mk (hb)
           clear HO_5
           clear HO_6
           clear BK833
           clear BK834
           clear BK835
           clear HO853
           clear HB
           clear HO875
           have HO_5 := n0_
           have HO_6 := n1_
           have BK833 := n2_
           have BK834 := n3_
           have BK835 := n4_
           have HO853 := n5_
           have HB := n6_
           clear n0_ n1_ n2_ n3_ n4_ n5_ n6_
           (try clear hb)
           (try clear hkp)
           refine hK.out _ _ ⟨(blk_cell BK834.out 0).trans rfl, (blk_cell BK834.out 1).trans rfl, (blk_cell BK834.out 2).trans rfl, (blk_cell BK834.out 3).trans rfl, (blk_cell BK834.out 4).trans rfl, (blk_cell BK834.out 5).trans rfl⟩ (fun hHeld => ?_)
           clear hK K
           refine norm_ (a' := ?_) ?_ ?_
           rotate_left
           ·show Act.put _ (some 95) _ = _
            simp only [Act.put, List.setIfInBounds_toArray, List.set_cons_zero, List.set_cons_succ, i64_w, i32_w]
            rfl
           refine one_ (i := 7) (N := none) #[true, true, true, true, true, true, true, true] rfl rfl (one_of HT_.out (by kernel_rfl)) (by decide) (fun K hK => ?_)
           have hs120 : w119.cell? ⟨gb835, 0, none⟩ = some (.int .i64 0) := (blk_cell BK835.out 0).trans rfl
           have hfs120 := blk_frozen BK835.out 0
           have hns120_0 := NB833_835.out
           have hns120_1 := NB834_835.out
           have hms120_0 := NB835_833.out
           have hms120_1 := NB835_834.out
           have hs121 : w119.cell? ⟨gb835, 1, none⟩ = some (.bool false) := (blk_cell BK835.out 1).trans rfl
           have hfs121 := blk_frozen BK835.out 1
           have hns121_0 := NB833_835.out
           have hns121_1 := NB834_835.out
           have hms121_0 := NB835_833.out
           have hms121_1 := NB835_834.out
           have hs122 : w119.cell? ⟨gb835, 2, none⟩ = some (.int .i64 0) := (blk_cell BK835.out 2).trans rfl
           have hfs122 := blk_frozen BK835.out 2
           have hns122_0 := NB833_835.out
           have hns122_1 := NB834_835.out
           have hms122_0 := NB835_833.out
           have hms122_1 := NB835_834.out
           have hs123 : w119.cell? ⟨gb835, 3, none⟩ = some (.int .u64 0) := (blk_cell BK835.out 3).trans rfl
           have hfs123 := blk_frozen BK835.out 3
           have hns123_0 := NB833_835.out
           have hns123_1 := NB834_835.out
           have hms123_0 := NB835_833.out
           have hms123_1 := NB835_834.out
           have hs124 : w119.cell? ⟨gb835, 4, none⟩ = some (.int .u64 0) := (blk_cell BK835.out 4).trans rfl
           have hfs124 := blk_frozen BK835.out 4
           have hns124_0 := NB833_835.out
           have hns124_1 := NB834_835.out
           have hms124_0 := NB835_833.out
           have hms124_1 := NB835_834.out
           have hs125 : w119.cell? ⟨gb835, 5, none⟩ = some (.bool false) := (blk_cell BK835.out 5).trans rfl
           have hfs125 := blk_frozen BK835.out 5
           have hns125_0 := NB833_835.out
           have hns125_1 := NB834_835.out
           have hms125_0 := NB835_833.out
           have hms125_1 := NB835_834.out
           refine skip_ (w1 := ?_) (by rfl) rfl ?_ ?_
           rotate_left
           ·go_simp
            rfl
           refine hK.out _ _ ⟨((cell_far (p := ⟨gb835, _, none⟩) NB834_835.out _).trans (((cell_far (p := ⟨gb835, _, none⟩) NB834_835.out _).trans (((cell_far (p := ⟨gb835, _, none⟩) NB834_835.out _).trans (((cell_far (p := ⟨gb835, _, none⟩) NB834_835.out _).trans (((cell_far (p := ⟨gb835, _, none⟩) NB834_835.out _).trans (((cell_far (p := ⟨gb835, _, none⟩) NB834_835.out _).trans (hHeld.1)))))))))))), ((cell_far (p := ⟨gb835, _, none⟩) NB834_835.out _).trans (((cell_far (p := ⟨gb835, _, none⟩) NB834_835.out _).trans (((cell_far (p := ⟨gb835, _, none⟩) NB834_835.out _).trans (((cell_far (p := ⟨gb835, _, none⟩) NB834_835.out _).trans (((cell_far (p := ⟨gb835, _, none⟩) NB834_835.out _).trans (((cell_far (p := ⟨gb835, _, none⟩) NB834_835.out _).trans (hHeld.2.1)))))))))))), ((cell_far (p := ⟨gb835, _, none⟩) NB834_835.out _).trans (((cell_far (p := ⟨gb835, _, none⟩) NB834_835.out _).trans (((cell_far (p := ⟨gb835, _, none⟩) NB834_835.out _).trans (((cell_far (p := ⟨gb835, _, none⟩) NB834_835.out _).trans (((cell_far (p := ⟨gb835, _, none⟩) NB834_835.out _).trans (((cell_far (p := ⟨gb835, _, none⟩) NB834_835.out _).trans (hHeld.2.2.1)))))))))))), ((cell_far (p := ⟨gb835, _, none⟩) NB834_835.out _).trans (((cell_far (p := ⟨gb835, _, none⟩) NB834_835.out _).trans (((cell_far (p := ⟨gb835, _, none⟩) NB834_835.out _).trans (((cell_far (p := ⟨gb835, _, none⟩) NB834_835.out _).trans (((cell_far (p := ⟨gb835, _, none⟩) NB834_835.out _).trans (((cell_far (p := ⟨gb835, _, none⟩) NB834_835.out _).trans (hHeld.2.2.2.1)))))))))))), ((cell_far (p := ⟨gb835, _, none⟩) NB834_835.out _).trans (((cell_far (p := ⟨gb835, _, none⟩) NB834_835.out _).trans (((cell_far (p := ⟨gb835, _, none⟩) NB834_835.out _).trans (((cell_far (p := ⟨gb835, _, none⟩) NB834_835.out _).trans (((cell_far (p := ⟨gb835, _, none⟩) NB834_835.out _).trans (((cell_far (p := ⟨gb835, _, none⟩) NB834_835.out _).trans (hHeld.2.2.2.2.1)))))))))))), ((cell_far (p := ⟨gb835, _, none⟩) NB834_835.out _).trans (((cell_far (p := ⟨gb835, _, none⟩) NB834_835.out _).trans (((cell_far (p := ⟨gb835, _, none⟩) NB834_835.out _).trans (((cell_far (p := ⟨gb835, _, none⟩) NB834_835.out _).trans (((cell_far (p := ⟨gb835, _, none⟩) NB834_835.out _).trans (((cell_far (p := ⟨gb835, _, none⟩) NB834_835.out _).trans (hHeld.2.2.2.2.2))))))))))))⟩ (fun hHeld => ?_)
           clear hK K
           refine done_ (done_of HT_.out (by kernel_rfl)) ?_
           try go_wp2
           refine bodyPost_ret (results_cell_row rfl _ _ gb835 86 #[.int .i64 t876, .bool t877, .int .i64 t878, .int .u64 t879, .int .u64 t880, .bool t881] (0, 0) _ rfl (bkT BK835) Try.underlying86 rfl (by kernel_rfl)) rfl ?_
           exact ⟨reT, hbT⟩
end Go.Proofs.Ytnlbfomlfhigcaa.Q
