/- Walks and plain laws that the claim stands on: each theorem named calls says that a call of a function returns what its f computes; the others are plain laws of these f, and the words that the walks use. -/
import Derived.Test.YtnlbfomlfhigcaaTopRisesV2
import Derived.Test.YtnlbfomlfhigcaaTopRisesV3
import Derived.Test.YtnlbfomlfhigcaaTopRisesV5
import Derived.Test.YtnlbfomlfhigcaaTopRisesV4
import Derived.Test.YtnlbfomlfhigcaaTopRisesV8
namespace Go.Proofs.Ytnlbfomlfhigcaa.Q
open Go.RowKit Go.Proofs.YtnlbfomlfhigcaaW.PrintWords Go.Proofs.YtnlbfomlfhigcaaW.PrintLast Go.Proofs.YtnlbfomlfhigcaaW.PrintMore
attribute [local go_sem] max2_int min2_int max_two min_two max_three min_three max_four min_four
set_option linter.unusedVariables false
set_option linter.unusedSimpArgs false
def twin_Mul.f (a0 : Int) (a1 : Int) : Option (Int × Int) := (bits_Mul64.f a0 a1).bind fun bt587 => (some (bt587.1, bt587.2))
set_option maxHeartbeats 8000000 in
set_option maxRecDepth 100000 in
theorem twin_Mul.calls (a0 : Int) (a1 : Int) (r1 : Int) (r2 : Int) (w : World) (h : twin_Mul.f a0 a1 = some (r1, r2)) :
  Calls Try.prog 119 #[.int .u64 a0, .int .u64 a1] w fun e w' => e = .returned (.agg #[.int .u64 r1, .int .u64 r2]) ∧ Below w.heap.size w w' := by
 have hu155 := Try.underlying155
 have HB := Aside0.mk (Below.refl w.heap.size w)
 have H := h
 clear h
 unfold twin_Mul.f at H
 replace H := Option.bind_eq_some_iff.mp H
 obtain ⟨⟨t587, t588⟩, A30, H⟩ := H
 try dsimp only at H
 have A3 := Aside0.mk A30
 clear A30
 simp only [Option.some.injEq, Prod.mk.injEq] at H
 obtain ⟨rfl, rfl⟩ := H
 go_enter Try.func119, Try.ntmps119
 go_wp2_with (first | ((with_reducible refine gate_dst (N := 4) rfl ?_); refine boxA 4 (#[.int .u64 0, .int .u64 0]) 155 ?_; intro gb586 hg w4 BK586 hb; have GW586 := geT hg; have GE586 := GW586; replace HB := hbS hb; clear hb hg) | ((with_reducible refine gate_callee (f := 150) rfl ?_); refine goesL_ (some 10) rfl rfl Try.func150 (by kernel_rfl) rfl #[.int .u64 a0, .int .u64 a1] rfl (by (try simp only [List.map_toArray, List.map_cons, List.map_nil]); first | done | rfl | (simp only [List.length_drop, List.length_take]; rfl)) ?_; (with_reducible refine (bits_Mul64.calls a0 a1 t587 t588 _ A3.out).mono ?_); rintro e w' ⟨rfl, ⟨nd, rfl⟩⟩; refine ⟨_, rfl, ?_⟩; (try (rw [drewN_self w4]; generalize hq_ : World.drewN w4 _ = w4; have n0_ : Aside0 (w4.heap[gb586]? = some (.cells #[.int .u64 0, .int .u64 0] 155 (0, 0))) := ⟨by rw [← hq_]; exact (bkT BK586)⟩; have n1_ : Aside0 (Below w.heap.size w w4) := ⟨by rw [← hq_]; exact hbT⟩; clear BK586 HB hq_; have BK586 := n0_; have HB := n1_; clear n0_ n1_)); obtain ⟨z5_0, z5_1, y5_0, y5_1⟩ := cz2 BK586))
 refine bodyPost_ret (results_cell_row rfl _ _ gb586 155 #[.int .u64 t587, .int .u64 t588] (0, 0) _ rfl (bkT BK586) Try.underlying155 rfl (by kernel_rfl)) rfl ?_
 exact ⟨reT, hbT⟩
end Go.Proofs.Ytnlbfomlfhigcaa.Q
namespace Go.Proofs.Ytnlbfomlfhigcaa.Q
open Go.RowKit Go.Proofs.YtnlbfomlfhigcaaW.PrintWords Go.Proofs.YtnlbfomlfhigcaaW.PrintLast Go.Proofs.YtnlbfomlfhigcaaW.PrintMore
attribute [local go_sem] max2_int min2_int max_two min_two max_three min_three max_four min_four
set_option linter.unusedVariables false
set_option linter.unusedSimpArgs false
attribute [local go_sem high] eqA155
def twin_Norm.f (a0_0 : Int) (a0_1 : Int) : Option (Int × Int × Int) := if (a0_0 == 0 && (a0_1 == 0)) = true then (some (a0_0, a0_1, 0)) else ((twin_Len.f a0_0 a0_1).bind fun t591 => ((twin_shl.f a0_0 a0_1 (wrap64 (128 - t591))).bind fun bt592 => (some (bt592.1, bt592.2, wrap64 (128 - t591)))))
set_option maxHeartbeats 8000000 in
set_option maxRecDepth 100000 in
theorem twin_Norm.calls (a0_0 : Int) (a0_1 : Int) (r1 : Int) (r2 : Int) (r3 : Int) (w : World) (h : twin_Norm.f a0_0 a0_1 = some (r1, r2, r3)) :
  Calls Try.prog 151 #[.agg #[.int .u64 a0_0, .int .u64 a0_1]] w fun e w' => e = .returned (.tuple #[.agg #[.int .u64 r1, .int .u64 r2], .int .i64 r3]) ∧ Below w.heap.size w w' := by
 have hu155 := Try.underlying155
 have HB := Aside0.mk (Below.refl w.heap.size w)
 have H := h
 clear h
 unfold twin_Norm.f at H
 by_cases c2 : (a0_0 == 0 && (a0_1 == 0)) = true
 ·rw [if_pos c2] at H
  have c2b0 : (a0_0 == 0 && (a0_1 == 0)) = true := c2
  (try (have c2b1 : decide (a0_0 = 0 && (a0_1 == 0)) = true := by simpa using c2))
  (try (have c2b2 : (a0_0 == 0 && (a0_1 == 0)) = true := by simpa using c2))
  clear c2
  simp only [Option.some.injEq, Prod.mk.injEq] at H
  obtain ⟨rfl, rfl, rfl⟩ := H
  go_enter Try.func151, Try.ntmps151
  go_wp2_with (first | ((with_reducible refine gate_dst (N := 1) rfl ?_); refine boxA 1 (#[.int .u64 a0_0, .int .u64 a0_1]) 155 ?_; intro gb589 hg w3 BK589 hb; have GW589 := geT hg; have GE589 := GW589; replace HB := hbS hb; clear hb hg) | ((with_reducible refine gate_dst (N := 2) rfl ?_); refine boxA 2 (#[.int .u64 0, .int .u64 0]) 155 ?_; intro gb590 hg w4 BK590 hb; have GW590 := geT hg; have GE590 := GW590; obtain ⟨NB589_590, NB590_589⟩ := neT BK589 hg; replace BK589 := bkB BK589 hb; replace HB := hbS hb; clear hb hg; have hnb5 := NB589_590.out; have hnc5 := NB590_589.out; obtain ⟨z6_0, z6_1, y6_0, y6_1⟩ := cz2 BK589; obtain ⟨z7_0, z7_1, y7_0, y7_1⟩ := cz2 BK590))
  refine bodyPost_ret (results_ct rfl _ _ gb590 155 #[.int .u64 a0_0, .int .u64 a0_1] (0, 0) _ rfl (bkT BK590) Try.underlying155 rfl (by kernel_rfl)) rfl ?_
  exact ⟨reT, hbT⟩
 ·rw [if_neg c2] at H
  have c2b0 : (a0_0 == 0 && (a0_1 == 0)) = false := by simpa using c2
  (try (have c2b1 : decide (a0_0 = 0 && (a0_1 == 0)) = false := by simpa using c2))
  (try (have c2b2 : (a0_0 == 0 && (a0_1 == 0)) = false := by simpa using c2))
  (try (have c2b3 : ¬ (a0_0 = 0 && (a0_1 == 0)) := by simpa using c2))
  clear c2
  replace H := Option.bind_eq_some_iff.mp H
  obtain ⟨t591, A80, H⟩ := H
  try dsimp only at H
  have A8 := Aside0.mk A80
  clear A80
  replace H := Option.bind_eq_some_iff.mp H
  obtain ⟨⟨t592, t593⟩, A90, H⟩ := H
  try dsimp only at H
  have A9 := Aside0.mk A90
  clear A90
  simp only [Option.some.injEq, Prod.mk.injEq] at H
  obtain ⟨rfl, rfl, rfl⟩ := H
  go_enter Try.func151, Try.ntmps151
  go_wp2_with (first | ((with_reducible refine gate_dst (N := 1) rfl ?_); refine boxA 1 (#[.int .u64 a0_0, .int .u64 a0_1]) 155 ?_; intro gb589 hg w10 BK589 hb; have GW589 := geT hg; have GE589 := GW589; replace HB := hbS hb; clear hb hg) | ((with_reducible refine gate_dst (N := 2) rfl ?_); refine boxA 2 (#[.int .u64 0, .int .u64 0]) 155 ?_; intro gb590 hg w11 BK590 hb; have GW590 := geT hg; have GE590 := GW590; obtain ⟨NB589_590, NB590_589⟩ := neT BK589 hg; replace BK589 := bkB BK589 hb; replace HB := hbS hb; clear hb hg; have hnb12 := NB589_590.out; have hnc12 := NB590_589.out; obtain ⟨z13_0, z13_1, y13_0, y13_1⟩ := cz2 BK589) | ((with_reducible refine gate_callee (f := 155) rfl ?_); refine goA (some 10) Try.func155 (twin_Len.calls a0_0 a0_1 t591 _ A8.out) ?_; intro w14 hb; replace BK589 := bkB BK589 hb; replace BK590 := bkB BK590 hb; replace HB := hbS hb; clear hb; obtain ⟨z15_0, z15_1, y15_0, y15_1⟩ := cz2 BK589) | ((with_reducible refine gate_callee (f := 154) rfl ?_); refine goA (some 14) Try.func154 (twin_shl.calls a0_0 a0_1 (wrap64 (128 - t591)) t592 t593 _ A9.out) ?_; intro w16 hb; replace BK589 := bkB BK589 hb; replace BK590 := bkB BK590 hb; replace HB := hbS hb; clear hb; obtain ⟨z17_0, z17_1, y17_0, y17_1⟩ := cz2 BK590))
  refine bodyPost_ret (results_ct rfl _ _ gb590 155 #[.int .u64 t592, .int .u64 t593] (0, 0) _ rfl (bkT BK590) Try.underlying155 rfl (by kernel_rfl)) rfl ?_
  exact ⟨reT, hbT⟩
end Go.Proofs.Ytnlbfomlfhigcaa.Q
namespace Go.Proofs.Ytnlbfomlfhigcaa.Q
open Go.RowKit Go.Proofs.YtnlbfomlfhigcaaW.PrintWords Go.Proofs.YtnlbfomlfhigcaaW.PrintLast Go.Proofs.YtnlbfomlfhigcaaW.PrintMore
attribute [local go_sem] max2_int min2_int max_two min_two max_three min_three max_four min_four
set_option linter.unusedVariables false
set_option linter.unusedSimpArgs false
attribute [local go_sem high] eqA155
def round_Make.j0 : Nat → Bool → Int → Int → Int → Bool → Bool → Option (Int × Bool × Int × Int × Int × Bool × Option Int)
 | 0, _, _, _, _, _, _ => none
 | k + 1, x0, x1, x2, x3, x4, x19 => if x19 = true then (some (0, false, 0, 0, 0, false, some 1)) else ((twin_Norm.f x1 x2).bind fun bt595 => (if (bt595.1 == 0 && (bt595.2.1 == 0)) = true then (some (0, false, 0, 0, 0, false, none)) else ((round_held.f (wrap64 ((wrap64 ((mx (-4398046511104) (mn x3 4398046511104)) + 127)) - bt595.2.2))).bind fun t599 => (some (1, x0, t599, bt595.1, bt595.2.1, x4, none)))))
def round_Make.f (k : Nat) (a0 : Bool) (a1 : Int) (a2 : Int) (a3 : Int) (a4 : Bool) : Option (Int × Bool × Int × Int × Int × Bool × Option Int) := if a4 = true then (round_Make.j0 k a0 a1 a2 a3 a4 ((a1 / 9223372036854775808) == 0)) else (round_Make.j0 k a0 a1 a2 a3 a4 false)
def round_Make.T7 : Bool × List (List Nat × List Nat) := (true, [([], []), ([], []), ([1], [1]), ([], []), ([2, 3], [2, 3]), ([4], [4]), ([], []), ([6], [6]), ([], []), ([8], [8]), ([], []), ([0, 5, 7, 9, 10], [0, 5, 7, 9, 10]), ([11, 5, 0, 1, 2, 3, 4, 5, 6, 7, 8, 9, 10, 11], [11]), ([12, 0, 1, 2, 3, 4, 5, 6, 7, 8, 9, 10, 11, 12], [])])
def round_Make.B7 : List Nat := [0, 0, 2, 0, 14, 30, 0, 64, 0, 256, 0, 2047, 4095, 8191]
theorem round_Make.tab7 : rtab .any (opsOf Try.f120 7) = round_Make.T7 := by kernel_rfl
theorem round_Make.bits7 : waitsOk round_Make.T7.2 round_Make.B7 = true := by kernel_rfl
set_option maxHeartbeats 8000000 in
set_option maxRecDepth 100000 in
theorem round_Make.calls (k : Nat) (a0 : Bool) (a1 : Int) (a2 : Int) (a3 : Int) (a4 : Bool) (r1 : Int) (r2 : Bool) (r3 : Int) (r4 : Int) (r5 : Int) (r6 : Bool) (r7 : Option Int) (w : World) (h : round_Make.f k a0 a1 a2 a3 a4 = some (r1, r2, r3, r4, r5, r6, r7)) :
  Calls Try.prog 120 #[.bool a0, .int .u64 a1, .int .u64 a2, .int .i64 a3, .bool a4] w fun e w' => e = .returned (.tuple #[.agg #[.int .i64 r1, .bool r2, .int .i64 r3, .int .u64 r4, .int .u64 r5, .bool r6], errW r7]) ∧ Below w.heap.size w w' := by
 have hu86 := Try.underlying86
 have hu155 := Try.underlying155
 have hu43 := Try.underlying43
 have hu82 := Try.underlying82
 have HB := Aside0.mk (Below.refl w.heap.size w)
 have H := h
 clear h
 unfold round_Make.f at H
 have HC6 := Aside0.mk H
 clear H
 go_enter Try.func120, Try.ntmps120
 go_upto_region 1 with (first | ((with_reducible refine gate_dst (N := 10) rfl ?_); refine boxA 10 (#[.int .i64 0, .bool false, .int .i64 0, .int .u64 0, .int .u64 0, .bool false]) 86 ?_; intro gb594 hg w7 BK594 hb; have GW594 := geT hg; have GE594 := GW594; replace HB := hbS hb; clear hb hg))
 (try simp only [Act.put, List.setIfInBounds_toArray, List.set_cons_zero, List.set_cons_succ])
 go_cut [19] (fun v19 wc => ∃ (kq : Nat) (x19_5 : Bool), v19 = .bool x19_5 ∧ Aside0 (round_Make.j0 kq a0 a1 a2 a3 a4 x19_5 = some (r1, r2, r3, r4, r5, r6, r7)) ∧ Aside0 (kq ≤ k) ∧ Aside0 (wc.heap[gb594]? = some (.cells #[.int .i64 0, .bool false, .int .i64 0, .int .u64 0, .int .u64 0, .bool false] 86 (0, 0))) ∧ Aside0 (Below w.heap.size w wc))
 case first =>
  have H := HC6.out
  clear HC6
  by_cases c8 : a4 = true
  ·subst c8
   rw [if_pos rfl] at H
   have H' := Aside0.mk H
   clear H
   go_wp2
   go_meet
   case rel => exact ⟨_, (((a1 / 9223372036854775808) == 0)), okT, H', leT, ⟨bkT BK594⟩, ⟨hbT⟩⟩
  ·replace c8 := Bool.eq_false_iff.mpr c8
   subst c8
   rw [if_neg (show ¬ (false = true) by decide)] at H
   have H' := Aside0.mk H
   clear H
   go_wp2
   go_meet
   case rel => exact ⟨_, (false), okT, H', leT, ⟨bkT BK594⟩, ⟨hbT⟩⟩
 case rest =>
  clear HC6
  obtain ⟨kq, x19_5, rfl, HA, HJ5, BK594, HB⟩ := hcut
  cases kq with
  | zero => exact absurd HA.out (by simp [round_Make.j0])
  | succ kj5 =>
   have H := HA.out
   clear HA
   simp only [round_Make.j0] at H
   by_cases c9 : x19_5 = true
   ·subst c9
    rw [if_pos rfl] at H
    simp only [Option.some.injEq, Prod.mk.injEq] at H
    obtain ⟨rfl, rfl, rfl, rfl, rfl, rfl, rfl⟩ := H
    obtain ⟨z10_0, z10_1, z10_2, z10_3, z10_4, z10_5, y10_0, y10_1, y10_2, y10_3, y10_4, y10_5⟩ := cz6 BK594
    go_wp2
    refine bodyPost_ret (results_ct rfl _ _ gb594 86 #[.int .i64 0, .bool false, .int .i64 0, .int .u64 0, .int .u64 0, .bool false] (0, 0) _ rfl (bkT BK594) Try.underlying86 rfl (by kernel_rfl)) rfl ?_
    exact ⟨reT, hbT⟩
   ·replace c9 := Bool.eq_false_iff.mpr c9
    subst c9
    rw [if_neg (show ¬ (false = true) by decide)] at H
    replace H := Option.bind_eq_some_iff.mp H
    obtain ⟨⟨t595, t596, t597⟩, A110, H⟩ := H
    try dsimp only at H
    have A11 := Aside0.mk A110
    clear A110
    by_cases c12 : (t595 == 0 && (t596 == 0)) = true
    ·rw [if_pos c12] at H
     have c12b0 : (t595 == 0 && (t596 == 0)) = true := c12
     (try (have c12b1 : decide (t595 = 0 && (t596 == 0)) = true := by simpa using c12))
     (try (have c12b2 : (t595 == 0 && (t596 == 0)) = true := by simpa using c12))
     clear c12
     simp only [Option.some.injEq, Prod.mk.injEq] at H
     obtain ⟨rfl, rfl, rfl, rfl, rfl, rfl, rfl⟩ := H
     go_wp2_with (first | ((with_reducible refine gate_callee (f := 151) rfl ?_); refine goA (some 26) Try.func151 (twin_Norm.calls a1 a2 t595 t596 t597 _ A11.out) ?_; intro w13 hb; replace BK594 := bkB BK594 hb; replace HB := hbS hb; clear hb) | ((with_reducible refine gate_dst (N := 12) rfl ?_); refine boxA 12 (#[.int .u64 0, .int .u64 0]) 155 ?_; intro gb598 hg w14 BK598 hb; have GW598 := geT hg; have GE598 := GW598; obtain ⟨NB594_598, NB598_594⟩ := neT BK594 hg; replace BK594 := bkB BK594 hb; replace HB := hbS hb; clear hb hg; have hnb15 := NB598_594.out; have hnc15 := NB594_598.out; obtain ⟨z16_0, z16_1, y16_0, y16_1⟩ := cz2 BK598; obtain ⟨z17_0, z17_1, z17_2, z17_3, z17_4, z17_5, y17_0, y17_1, y17_2, y17_3, y17_4, y17_5⟩ := cz6 BK594))
     refine bodyPost_ret (results_ct rfl _ _ gb594 86 #[.int .i64 0, .bool false, .int .i64 0, .int .u64 0, .int .u64 0, .bool false] (0, 0) _ rfl (bkT BK594) Try.underlying86 rfl (by kernel_rfl)) rfl ?_
     exact ⟨reT, hbT⟩
    ·rw [if_neg c12] at H
     have c12b0 : (t595 == 0 && (t596 == 0)) = false := by simpa using c12
     (try (have c12b1 : decide (t595 = 0 && (t596 == 0)) = false := by simpa using c12))
     (try (have c12b2 : (t595 == 0 && (t596 == 0)) = false := by simpa using c12))
     (try (have c12b3 : ¬ (t595 = 0 && (t596 == 0)) := by simpa using c12))
     clear c12
     obtain ⟨ji18, hji18⟩ : ∃ j_ : Int, (mn a3 4398046511104) = j_ := ⟨_, rfl⟩
     replace H : ((round_held.f (wrap64 ((wrap64 ((mx (-4398046511104) (ji18)) + 127)) - t597))).bind fun t599 => (some (1, a0, t599, t595, t596, a4, none))) = some (r1, r2, r3, r4, r5, r6, r7) := by first | (rw [hji18] at H; exact H) | (simp only [hji18] at H ⊢; exact H)
     (try rw [hji18] at A11)
     have hji18_ : (if 4398046511104 < a3 then 4398046511104 else a3) = ji18 := hji18
     obtain ⟨ji19, hji19⟩ : ∃ j_ : Int, (mx (-4398046511104) (ji18)) = j_ := ⟨_, rfl⟩
     replace H : ((round_held.f (wrap64 ((wrap64 ((ji19) + 127)) - t597))).bind fun t599 => (some (1, a0, t599, t595, t596, a4, none))) = some (r1, r2, r3, r4, r5, r6, r7) := by first | (rw [hji19] at H; exact H) | (simp only [hji19] at H ⊢; exact H)
     (try rw [hji19] at A11)
     have hji19_ : (if (-4398046511104) < (ji18) then (ji18) else (-4398046511104)) = ji19 := hji19
     replace H := Option.bind_eq_some_iff.mp H
     obtain ⟨t599, A200, H⟩ := H
     try dsimp only at H
     have A20 := Aside0.mk A200
     clear A200
     simp only [Option.some.injEq, Prod.mk.injEq] at H
     obtain ⟨rfl, rfl, rfl, rfl, rfl, rfl, rfl⟩ := H
     try go_wp2_with (first | ((with_reducible refine gate_callee (f := 151) rfl ?_); refine goA (some 26) Try.func151 (twin_Norm.calls a1 a2 t595 t596 t597 _ A11.out) ?_; intro w21 hb; replace BK594 := bkB BK594 hb; replace HB := hbS hb; clear hb) | ((with_reducible refine gate_dst (N := 12) rfl ?_); refine boxA 12 (#[.int .u64 0, .int .u64 0]) 155 ?_; intro gb598 hg w22 BK598 hb; have GW598 := geT hg; have GE598 := GW598; obtain ⟨NB594_598, NB598_594⟩ := neT BK594 hg; replace BK594 := bkB BK594 hb; replace HB := hbS hb; clear hb hg; have hnb23 := NB598_594.out; have hnc23 := NB594_598.out; obtain ⟨z24_0, z24_1, y24_0, y24_1⟩ := cz2 BK598))
     have n0_ : Aside0 (((w22.setCell ⟨gb598, 0, none⟩ (.int .u64 t595)).setCell ⟨gb598, 1, none⟩ (.int .u64 t596)).heap[gb594]? = some (.cells #[.int .i64 0, .bool false, .int .i64 0, .int .u64 0, .int .u64 0, .bool false] 86 (0, 0))) := ⟨bkT BK594⟩
     have n1_ : Aside0 (((w22.setCell ⟨gb598, 0, none⟩ (.int .u64 t595)).setCell ⟨gb598, 1, none⟩ (.int .u64 t596)).heap[gb598]? = some (.cells #[.int .u64 t595, .int .u64 t596] 155 (0, 0))) := ⟨bkT BK598⟩
     have n2_ : Aside0 (Below w.heap.size w ((w22.setCell ⟨gb598, 0, none⟩ (.int .u64 t595)).setCell ⟨gb598, 1, none⟩ (.int .u64 t596))) := ⟨hbT⟩
     (try clear BK594)
     (try clear BK598)
     (try clear HB)
     generalize ((w22.setCell ⟨gb598, 0, none⟩ (.int .u64 t595)).setCell ⟨gb598, 1, none⟩ (.int .u64 t596)) = w25 at n0_ n1_ n2_ ⊢
     have BK594 := n0_
     have BK598 := n1_
     have HB := n2_
     clear n0_ n1_ n2_
     have n0_ := Aside0.mk (blk_drew BK594.out)
     have n1_ := Aside0.mk (blk_drew BK598.out)
     have n2_ := Aside0.mk (below_drew1 HB.out)
     clear BK594
     clear BK598
     clear HB
     have BK594 := n0_
     have BK598 := n1_
     have HB := n2_
     clear n0_ n1_ n2_
     refine start_ (n := 14) (S := fun w' => w'.cell? ⟨gb598, 0, none⟩ = some (.int .u64 t595) ∧ w'.cell? ⟨gb598, 1, none⟩ = some (.int .u64 t596)) (ds := []) #[false, false, false, false, false, false, false, false, false, false, false, false, false, false] (by kernel_rfl) rfl rfl ⟨(blk_cell BK598.out 0).trans rfl, (blk_cell BK598.out 1).trans rfl⟩ (fun hHeld => ?_); refine with_tabW round_Make.tab7 round_Make.bits7 (fun HT_ HW_ => ?_)
     generalize w25.drew = w26 at BK594 BK598 HB hHeld ⊢
     refine pure_ (i := 0) (N := some 36) (v := ?_) (a' := ?_) #[true, false, false, false, false, false, false, false, false, false, false, false, false, false] rfl rfl (any_of HT_.out (by kernel_rfl)) (fun _ _ _ h => h) (Or.inl ⟨by rfl, ?_⟩) ?_ ?_
     rotate_left
     ·intro w'
      go_simp
      with_reducible rfl
     rotate_left
     ·simp only [Act.put, List.setIfInBounds_toArray, List.set_cons_zero, List.set_cons_succ, i64_w, i32_w]
      rfl
     refine pure_ (i := 1) (N := some 37) (v := ?_) (a' := ?_) #[true, true, false, false, false, false, false, false, false, false, false, false, false, false] rfl rfl (any_of HT_.out (by kernel_rfl)) (fun _ _ _ h => h) (Or.inl ⟨by rfl, ?_⟩) ?_ ?_
     rotate_left
     ·intro w'
      go_simp
      with_reducible rfl
     rotate_left
     ·simp only [Act.put, List.setIfInBounds_toArray, List.set_cons_zero, List.set_cons_succ, i64_w, i32_w]
      rfl
     refine pure_ (i := 2) (N := some 38) (v := ?_) (a' := ?_) #[true, true, true, false, false, false, false, false, false, false, false, false, false, false] rfl rfl (any_of HT_.out (by kernel_rfl)) (fun _ _ _ h => h) (Or.inl ⟨by rfl, ?_⟩) ?_ ?_
     rotate_left
     ·intro w'
      go_simp
      with_reducible rfl
     rotate_left
     ·simp only [Act.put, List.setIfInBounds_toArray, List.set_cons_zero, List.set_cons_succ, i64_w, i32_w]
      rfl
     refine pure_ (i := 3) (N := some 39) (v := ?_) (a' := ?_) #[true, true, true, true, false, false, false, false, false, false, false, false, false, false] rfl rfl (any_of HT_.out (by kernel_rfl)) (fun _ _ _ h => h) (Or.inl ⟨by rfl, ?_⟩) ?_ ?_
     rotate_left
     ·intro w'
      go_simp
      with_reducible rfl
     rotate_left
     ·simp only [Act.put, List.setIfInBounds_toArray, List.set_cons_zero, List.set_cons_succ, i64_w, i32_w]
      rfl
     refine pure_ (i := 4) (N := some 40) (v := ?_) (a' := ?_) #[true, true, true, true, true, false, false, false, false, false, false, false, false, false] rfl rfl (any_of HT_.out (by kernel_rfl)) (fun _ _ _ h => h) (Or.inl ⟨by rfl, ?_⟩) ?_ ?_
     rotate_left
     ·intro w'
      go_simp
      with_reducible rfl
     rotate_left
     ·simp only [Act.put, List.setIfInBounds_toArray, List.set_cons_zero, List.set_cons_succ, i64_w, i32_w]
      rfl
     refine pure_ (i := 6) (N := some 42) (v := ?_) (a' := ?_) #[true, true, true, true, true, false, true, false, false, false, false, false, false, false] rfl rfl (any_of HT_.out (by kernel_rfl)) (fun _ _ _ h => h) (Or.inl ⟨by rfl, ?_⟩) ?_ ?_
     rotate_left
     ·intro w'
      go_simp
      with_reducible rfl
     rotate_left
     ·simp only [Act.put, List.setIfInBounds_toArray, List.set_cons_zero, List.set_cons_succ, i64_w, i32_w]
      rfl
     refine pure_ (i := 8) (N := some 44) (v := ?_) (a' := ?_) #[true, true, true, true, true, false, true, false, true, false, false, false, false, false] rfl rfl (any_of HT_.out (by kernel_rfl)) (fun _ _ _ h => h) (Or.inl ⟨by rfl, ?_⟩) ?_ ?_
     rotate_left
     ·intro w'
      go_simp
      with_reducible rfl
     rotate_left
     ·simp only [Act.put, List.setIfInBounds_toArray, List.set_cons_zero, List.set_cons_succ, i64_w, i32_w]
      rfl
     refine pure_ (i := 10) (N := some 46) (v := ?_) (a' := ?_) #[true, true, true, true, true, false, true, false, true, false, true, false, false, false] rfl rfl (any_of HT_.out (by kernel_rfl)) (fun _ _ _ h => h) (Or.inl ⟨by rfl, ?_⟩) ?_ ?_
     rotate_left
     ·intro w'
      go_simp
      with_reducible rfl
     rotate_left
     ·simp only [Act.put, List.setIfInBounds_toArray, List.set_cons_zero, List.set_cons_succ, i64_w, i32_w]
      rfl
     refine take_ (i := 7) (N := some 43) (v := ?_) (a' := ?_) #[true, true, true, true, true, false, true, true, true, false, true, false, false, false] rfl rfl (take_ofW HT_.out HW_.out (by kernel_rfl)) (fun _ _ _ h => h) (Or.inl ⟨by rfl, ?_⟩) hHeld ?_ ?_
     rotate_left
     ·rintro w' ⟨s0, s1⟩
      go_simp
      with_reducible rfl
     rotate_left
     ·simp only [Act.put, List.setIfInBounds_toArray, List.set_cons_zero, List.set_cons_succ, i64_w, i32_w]
      rfl
     refine take_ (i := 9) (N := some 45) (v := ?_) (a' := ?_) #[true, true, true, true, true, false, true, true, true, true, true, false, false, false] rfl rfl (take_ofW HT_.out HW_.out (by kernel_rfl)) (fun _ _ _ h => h) (Or.inl ⟨by rfl, ?_⟩) hHeld ?_ ?_
     rotate_left
     ·rintro w' ⟨s0, s1⟩
      go_simp
      with_reducible rfl
     rotate_left
     ·simp only [Act.put, List.setIfInBounds_toArray, List.set_cons_zero, List.set_cons_succ, i64_w, i32_w]
      rfl
     refine one_ (i := 5) (N := some 41) #[true, true, true, true, true, true, true, true, true, true, true, false, false, false] rfl rfl (one_of HT_.out (by kernel_rfl)) (by decide) (fun K hK => ?_)
     refine goes_ Try.func128 (by kernel_rfl) rfl #[.int .i64 (wrap64 ((wrap64 ((ji19) + 127)) - t597))] (by rfl) rfl rfl (by (try simp only [List.map_toArray, List.map_cons, List.map_nil]); first | done | (simp only [hji19]; rfl) | rfl | (simp only [List.length_drop, List.length_take]; rfl)) ?_
     with_reducible refine (round_held.calls (wrap64 ((wrap64 ((ji19) + 127)) - t597)) t599 _ A20.out).mono ?_
     rintro e w27 ⟨rfl, hb⟩
     refine ⟨_, rfl, ?_⟩
     have n0_ := bkB BK594 hb
     have n1_ := bkB BK598 hb
     have n2_ := hbS hb
     clear BK594
     clear BK598
     clear HB
     have BK594 := n0_
     have BK598 := n1_
     have HB := n2_
     clear n0_ n1_ n2_
     (try clear hb)
     (try clear hb2)
     (try clear hk)
     (try clear hi)
     refine hK.out _ _ ⟨(blk_cell BK598.out 0).trans rfl, (blk_cell BK598.out 1).trans rfl⟩ (fun hHeld => ?_)
     clear hK K
     refine norm_ (a' := ?_) ?_ ?_
     rotate_left
     ·show Act.put _ (some 41) _ = _
      simp only [Act.put, List.setIfInBounds_toArray, List.set_cons_zero, List.set_cons_succ, i64_w, i32_w]
      rfl
     refine pure_ (i := 11) (N := some 47) (v := ?_) (a' := ?_) #[true, true, true, true, true, true, true, true, true, true, true, true, false, false] rfl rfl (any_of HT_.out (by kernel_rfl)) (fun _ _ _ h => h) (Or.inl ⟨by rfl, ?_⟩) ?_ ?_
     rotate_left
     ·intro w'
      go_simp
      with_reducible rfl
     rotate_left
     ·simp only [Act.put, List.setIfInBounds_toArray, List.set_cons_zero, List.set_cons_succ, i64_w, i32_w]
      rfl
     refine one_ (i := 12) (N := none) #[true, true, true, true, true, true, true, true, true, true, true, true, true, false] rfl rfl (one_of HT_.out (by kernel_rfl)) (by decide) (fun K hK => ?_)
     have hs28 : w27.cell? ⟨gb594, 0, none⟩ = some (.int .i64 0) := (blk_cell BK594.out 0).trans rfl
     have hfs28 := blk_frozen BK594.out 0
     have hns28_1 := NB598_594.out
     have hms28_1 := NB594_598.out
     have hs29 : w27.cell? ⟨gb594, 1, none⟩ = some (.bool false) := (blk_cell BK594.out 1).trans rfl
     have hfs29 := blk_frozen BK594.out 1
     have hns29_1 := NB598_594.out
     have hms29_1 := NB594_598.out
     have hs30 : w27.cell? ⟨gb594, 2, none⟩ = some (.int .i64 0) := (blk_cell BK594.out 2).trans rfl
     have hfs30 := blk_frozen BK594.out 2
     have hns30_1 := NB598_594.out
     have hms30_1 := NB594_598.out
     have hs31 : w27.cell? ⟨gb594, 3, none⟩ = some (.int .u64 0) := (blk_cell BK594.out 3).trans rfl
     have hfs31 := blk_frozen BK594.out 3
     have hns31_1 := NB598_594.out
     have hms31_1 := NB594_598.out
     have hs32 : w27.cell? ⟨gb594, 4, none⟩ = some (.int .u64 0) := (blk_cell BK594.out 4).trans rfl
     have hfs32 := blk_frozen BK594.out 4
     have hns32_1 := NB598_594.out
     have hms32_1 := NB594_598.out
     have hs33 : w27.cell? ⟨gb594, 5, none⟩ = some (.bool false) := (blk_cell BK594.out 5).trans rfl
     have hfs33 := blk_frozen BK594.out 5
     have hns33_1 := NB598_594.out
     have hms33_1 := NB594_598.out
     refine skip_ (w1 := ?_) (by rfl) rfl ?_ ?_
     rotate_left
     ·go_simp
      rfl
     refine hK.out _ _ ⟨((cell_far (p := ⟨gb594, _, none⟩) NB598_594.out _).trans (((cell_far (p := ⟨gb594, _, none⟩) NB598_594.out _).trans (((cell_far (p := ⟨gb594, _, none⟩) NB598_594.out _).trans (((cell_far (p := ⟨gb594, _, none⟩) NB598_594.out _).trans (((cell_far (p := ⟨gb594, _, none⟩) NB598_594.out _).trans (((cell_far (p := ⟨gb594, _, none⟩) NB598_594.out _).trans (hHeld.1)))))))))))), ((cell_far (p := ⟨gb594, _, none⟩) NB598_594.out _).trans (((cell_far (p := ⟨gb594, _, none⟩) NB598_594.out _).trans (((cell_far (p := ⟨gb594, _, none⟩) NB598_594.out _).trans (((cell_far (p := ⟨gb594, _, none⟩) NB598_594.out _).trans (((cell_far (p := ⟨gb594, _, none⟩) NB598_594.out _).trans (((cell_far (p := ⟨gb594, _, none⟩) NB598_594.out _).trans (hHeld.2))))))))))))⟩ (fun hHeld => ?_)
     clear hK K
     refine pure_ (i := 13) (N := some 11) (v := ?_) (a' := ?_) #[true, true, true, true, true, true, true, true, true, true, true, true, true, true] rfl rfl (any_of HT_.out (by kernel_rfl)) (fun _ _ _ h => h) (Or.inl ⟨by rfl, ?_⟩) ?_ ?_
     rotate_left
     ·intro w'
      go_simp
      with_reducible rfl
     rotate_left
     ·simp only [Act.put, List.setIfInBounds_toArray, List.set_cons_zero, List.set_cons_succ, i64_w, i32_w]
      rfl
     refine done_ (done_of HT_.out (by kernel_rfl)) ?_
     try go_wp2
     refine bodyPost_ret (results_ct rfl _ _ gb594 86 #[.int .i64 1, .bool a0, .int .i64 t599, .int .u64 t595, .int .u64 t596, .bool a4] (0, 0) _ rfl (bkT BK594) Try.underlying86 rfl (by kernel_rfl)) rfl ?_
     exact ⟨by first | rfl | (simp [errW_none, errW_some] <;> rfl) | (simp only [← hji18, ← hji19]; first | rfl | (simp [errW_none, errW_some] <;> rfl)) | (simp [*, errW_none, errW_some] <;> rfl), hbT⟩
end Go.Proofs.Ytnlbfomlfhigcaa.Q
namespace Go.Proofs.Ytnlbfomlfhigcaa.Q
open Go.RowKit Go.Proofs.YtnlbfomlfhigcaaW.PrintWords Go.Proofs.YtnlbfomlfhigcaaW.PrintLast Go.Proofs.YtnlbfomlfhigcaaW.PrintMore
attribute [local go_sem] max2_int min2_int max_two min_two max_three min_three max_four min_four
set_option linter.unusedVariables false
set_option linter.unusedSimpArgs false
mutual
def prod_Exact.l0 : Nat → List (S103) → Int → Int → Int → Bool → Int → Int → Int → Bool → Int → Int → Option (Int × Bool × Int × Int × Int × Bool × Option Int)
 | 0, _, _, _, _, _, _, _, _, _, _, _ => none
 | k + 1, x13, x14, x15, x601000, x601001, x601002, x601003, x602000, x602001, x602002, x602003 => if x15 < x14 then (if 0 ≤ x15 then (if x15 < (x13.length : Int) then ((round_Of.f k ((rd_T103 x13 x15).f0) ((rd_T103 x13 x15).f1) ((rd_T103 x13 x15).f2) ((rd_T103 x13 x15).f3)).bind fun bt608 => (if bt608.2.2.2.2.2.2.isNone = true then (prod_Exact.l0 k x13 x14 (wrap64 (x15 + 1)) x601000 x601001 x601002 x601003 x602000 x602001 x602002 x602003) else (some (0, false, 0, 0, 0, false, some (bt608.2.2.2.2.2.2.getD 0))))) else (none)) else (none)) else (if x601000 = 2 then (prod_Exact.j1 k (x601000 == 2) x601000 x601001 x601002 x601003 x602000 x602001 x602002 x602003) else (prod_Exact.j1 k (x602000 == 2) x601000 x601001 x601002 x601003 x602000 x602001 x602002 x602003))
def prod_Exact.j1 : Nat → Bool → Int → Bool → Int → Int → Int → Bool → Int → Int → Option (Int × Bool × Int × Int × Int × Bool × Option Int)
 | 0, _, _, _, _, _, _, _, _, _ => none
 | k + 1, x29, x601000, x601001, x601002, x601003, x602000, x602001, x602002, x602003 => if x29 = true then (some (2, false, 0, 0, 0, false, none)) else (if x601000 = 0 then (prod_Exact.j2 k (x601000 == 0) x601000 x601001 x601002 x601003 x602000 x602001 x602002 x602003) else (prod_Exact.j2 k (x602000 == 0) x601000 x601001 x601002 x601003 x602000 x602001 x602002 x602003))
def prod_Exact.j2 : Nat → Bool → Int → Bool → Int → Int → Int → Bool → Int → Int → Option (Int × Bool × Int × Int × Int × Bool × Option Int)
 | 0, _, _, _, _, _, _, _, _, _ => none
 | k + 1, x37, x601000, x601001, x601002, x601003, x602000, x602001, x602002, x602003 => if x37 = true then (some (0, false, 0, 0, 0, false, none)) else ((twin_Mul.f x601003 x602003).bind fun bt617 => ((round_Make.f k (x601001 != x602001) bt617.1 bt617.2 (wrap64 ((wrap64 (x601002 + x602002)) - 126)) false).bind fun bt620 => (some (bt620.1, bt620.2.1, bt620.2.2.1, bt620.2.2.2.1, bt620.2.2.2.2.1, bt620.2.2.2.2.2.1, bt620.2.2.2.2.2.2))))
end
def prod_Exact.f (k : Nat) (a0_0 : Int) (a0_1 : Bool) (a0_2 : Int) (a0_3 : Int) (a1_0 : Int) (a1_1 : Bool) (a1_2 : Int) (a1_3 : Int) : Option (Int × Bool × Int × Int × Int × Bool × Option Int) := (some (([(⟨a0_0, a0_1, a0_2, a0_3⟩ : S103), (⟨a1_0, a1_1, a1_2, a1_3⟩ : S103)] : List (S103)) : List (S103))).bind fun y603 => (prod_Exact.l0 k y603 (y603.length : Int) 0 a0_0 a0_1 a0_2 a0_3 a1_0 a1_1 a1_2 a1_3)
set_option maxHeartbeats 8000000 in
set_option maxRecDepth 100000 in
theorem prod_Exact.calls (k : Nat) (a0_0 : Int) (a0_1 : Bool) (a0_2 : Int) (a0_3 : Int) (a1_0 : Int) (a1_1 : Bool) (a1_2 : Int) (a1_3 : Int) (r1 : Int) (r2 : Bool) (r3 : Int) (r4 : Int) (r5 : Int) (r6 : Bool) (r7 : Option Int) (w : World) (h : prod_Exact.f k a0_0 a0_1 a0_2 a0_3 a1_0 a1_1 a1_2 a1_3 = some (r1, r2, r3, r4, r5, r6, r7)) :
  Calls Try.prog 94 #[.agg #[.int .i64 a0_0, .bool a0_1, .int .i64 a0_2, .int .u64 a0_3], .agg #[.int .i64 a1_0, .bool a1_1, .int .i64 a1_2, .int .u64 a1_3]] w fun e w' => e = .returned (.tuple #[.agg #[.int .i64 r1, .bool r2, .int .i64 r3, .int .u64 r4, .int .u64 r5, .bool r6], errW r7]) ∧ Below w.heap.size w w' := by
 have hu103 := Try.underlying103
 have hu86 := Try.underlying86
 have hu155 := Try.underlying155
 have hu43 := Try.underlying43
 have hu82 := Try.underlying82
 have HB := Aside0.mk (Below.refl w.heap.size w)
 have H := h
 clear h
 unfold prod_Exact.f at H
 obtain ⟨y603, hy603⟩ : ∃ y_ : List (S103), y_ = (([(⟨a0_0, a0_1, a0_2, a0_3⟩ : S103), (⟨a1_0, a1_1, a1_2, a1_3⟩ : S103)] : List (S103))) := ⟨_, rfl⟩
 replace H : (prod_Exact.l0 k y603 (y603.length : Int) 0 a0_0 a0_1 a0_2 a0_3 a1_0 a1_1 a1_2 a1_3) = some (r1, r2, r3, r4, r5, r6, r7) := by first | (rw [hy603]; with_reducible exact H) | (have H2_ := (Option.bind_some _ _).symm.trans H; rw [hy603]; with_reducible exact H2_) | (have H2_ := (Option.bind_some _ _).symm.trans H; with_reducible exact H2_) | with_reducible exact H | (rw [hy603]; exact H) | exact H
 have Ny603 := Aside0.mk hy603
 clear hy603
 have H' := Aside0.mk H
 clear H
 go_enter Try.func94, Try.ntmps94
 go_wp2_with (first | ((with_reducible refine gate_dst (N := 2) rfl ?_); refine boxA 2 (#[.int .i64 a0_0, .bool a0_1, .int .i64 a0_2, .int .u64 a0_3]) 103 ?_; intro gb600 hg w3 BK600 hb; have GW600 := geT hg; have GE600 := GW600; replace HB := hbS hb; clear hb hg) | ((with_reducible refine gate_dst (N := 3) rfl ?_); refine boxA 3 (#[.int .i64 a1_0, .bool a1_1, .int .i64 a1_2, .int .u64 a1_3]) 103 ?_; intro gb601 hg w4 BK601 hb; have GW601 := geT hg; have GE601 := GW601; obtain ⟨NB600_601, NB601_600⟩ := neT BK600 hg; replace BK600 := bkB BK600 hb; replace HB := hbS hb; clear hb hg) | ((with_reducible refine gate_dst (N := 4) rfl ?_); refine boxA 4 (#[.int .i64 0, .bool false, .int .i64 0, .int .u64 0, .int .u64 0, .bool false]) 86 ?_; intro gb602 hg w5 BK602 hb; have GW602 := geT hg; have GE602 := GW602; obtain ⟨NB600_602, NB602_600⟩ := neT BK600 hg; obtain ⟨NB601_602, NB602_601⟩ := neT BK601 hg; replace BK600 := bkB BK600 hb; replace BK601 := bkB BK601 hb; replace HB := hbS hb; clear hb hg; have hnb6 := NB600_601.out; have hnc6 := NB601_600.out; have hnb7 := NB600_602.out; have hnc7 := NB602_600.out; obtain ⟨z8_0, z8_1, z8_2, z8_3, y8_0, y8_1, y8_2, y8_3⟩ := cz4 BK600; have hnb9 := NB601_602.out; have hnc9 := NB602_601.out; obtain ⟨z10_0, z10_1, z10_2, z10_3, y10_0, y10_1, y10_2, y10_3⟩ := cz4 BK601) | ((with_reducible refine gate_dst (N := 13) rfl ?_); refine Kd.R_lit k103 _ 103 ?hg (N := 13) ?hd (xs := ([(⟨a0_0, a0_1, a0_2, a0_3⟩ : S103), (⟨a1_0, a1_1, a1_2, a1_3⟩ : S103)] : List (S103))) (inner := [.int .i64 a0_0, .bool a0_1, .int .i64 a0_2, .int .u64 a0_3, .int .i64 a1_0, .bool a1_1, .int .i64 a1_2, .int .u64 a1_3]) (ok := fun _ => True) (okp := fun _ => True) ?hr ?hp (fun _ hk => hk) trivial (Below.refl _ _) (Nat.le_refl _) (by simp) ?_; (case hd => rfl); (case hg => rfl); (case hr => first | (go_simp; done) | (go_simp; rfl)); (case hp => exact (Reps.c4 (show Kd.M k103 _ _ _ (⟨a0_0, a0_1, a0_2, a0_3⟩ : S103) [.int .i64 a0_0, .bool a0_1, .int .i64 a0_2, .int .u64 a0_3] from (k103_mkM _ _ _ (⟨a0_0, a0_1, a0_2, a0_3⟩ : S103) )) (Reps.c4 (show Kd.M k103 _ _ _ (⟨a1_0, a1_1, a1_2, a1_3⟩ : S103) [.int .i64 a1_0, .bool a1_1, .int .i64 a1_2, .int .u64 a1_3] from (k103_mkM _ _ _ (⟨a1_0, a1_1, a1_2, a1_3⟩ : S103) )) (Reps.none _ _)))); intro v604 w11 ho12 hb hg_ hnew_; clear hg_ hnew_; (first | rw [← Ny603.out] at ho12 | (simp only [Int.reduceToNat] at ho12; rw [← Ny603.out] at ho12)); have HO605 := Aside0.mk (Kd.R_lower (Kd.R_newB (Kd.R_newB ho12 (g := gb600) (o := .cells #[.int .i64 a0_0, .bool a0_1, .int .i64 a0_2, .int .u64 a0_3] 103 (0, 0)) (bkT BK600)) (g := gb601) (o := .cells #[.int .i64 a1_0, .bool a1_1, .int .i64 a1_2, .int .u64 a1_3] 103 (0, 0)) (bkT BK601)) (below_size hbT)); replace BK600 := bkB BK600 hb; replace BK601 := bkB BK601 hb; replace BK602 := bkB BK602 hb; replace HB := hbS hb; clear hb ho12; obtain ⟨Ao13, co13, eo13⟩ := Kd.R_slice HO605.out; subst eo13))
 go_loopg [15] k (fun kq v15 w' => ∃ (x15_1 : Int) (x603000_1 : Int) (x603001_1 : Bool) (x603002_1 : Int) (x603003_1 : Int) (x603004_1 : Int) (x603005_1 : Bool), v15 = .int .i64 x15_1 ∧ Aside0 (prod_Exact.l0 kq y603 (y603.length : Int) x15_1 a0_0 a0_1 a0_2 a0_3 a1_0 a1_1 a1_2 a1_3 = some (r1, r2, r3, r4, r5, r6, r7)) ∧ Aside0 (kq ≤ k) ∧ Aside0 (Kd.R k103 103 w' w.heap.size (fun k_ => k_ ≠ gb600 ∧ k_ ≠ gb601) (.slice Ao13 y603.length co13) y603) ∧ Aside0 (w'.heap[gb600]? = some (.cells #[.int .i64 a0_0, .bool a0_1, .int .i64 a0_2, .int .u64 a0_3] 103 (0, 0))) ∧ Aside0 (w'.heap[gb601]? = some (.cells #[.int .i64 a1_0, .bool a1_1, .int .i64 a1_2, .int .u64 a1_3] 103 (0, 0))) ∧ Aside0 (w'.heap[gb602]? = some (.cells #[.int .i64 x603000_1, .bool x603001_1, .int .i64 x603002_1, .int .u64 x603003_1, .int .u64 x603004_1, .bool x603005_1] 86 (0, 0))) ∧ Aside0 (Below w.heap.size w w'))
 case atStart => exact ⟨(0), (0), (false), (0), (0), (0), (false), okT, H', ⟨Nat.le_refl _⟩, ⟨by (with_reducible repeat (first | apply Kd.R_alloc | apply Kd.R_drewN | apply Kd.R_drew)); exact Kd.R_mono HO605.out (fun _ hk => ⟨hk.1.2, hk.2⟩)⟩, ⟨bkT BK600⟩, ⟨bkT BK601⟩, ⟨bkT BK602⟩, ⟨hbT⟩⟩
 case round =>
  clear H'
  try clear z10_0 z10_1 z10_2 z10_3 y10_0 y10_1 y10_2 y10_3
  try clear z8_0 z8_1 z8_2 z8_3 y8_0 y8_1 y8_2 y8_3
  obtain ⟨x15_1, x603000_1, x603001_1, x603002_1, x603003_1, x603004_1, x603005_1, rfl, HA, HK1, HO_13, BK600, BK601, BK602, HB⟩ := hrel
  cases gk with
  | zero => exact absurd HA.out (by simp [prod_Exact.l0])
  | succ k1 =>
   have H := HA.out
   clear HA
   simp only [prod_Exact.l0] at H
   by_cases c14 : x15_1 < (y603.length : Int)
   ·rw [if_pos c14] at H
    have c14b0 : decide (x15_1 < (y603.length : Int)) = true := decide_eq_true c14
    clear c14
    by_cases c15 : 0 ≤ x15_1
    ·rw [if_pos c15] at H
     have c15b0 : decide (0 ≤ x15_1) = true := decide_eq_true c15
     clear c15
     by_cases c16 : x15_1 < (y603.length : Int)
     ·rw [if_pos c16] at H
      have c16b0 : decide (x15_1 < (y603.length : Int)) = true := decide_eq_true c16
      clear c16
      replace H := Option.bind_eq_some_iff.mp H
      obtain ⟨⟨t608, t609, t610, t611, t612, t613, t614⟩, A170, H⟩ := H
      try dsimp only at H
      have A17 := Aside0.mk A170
      clear A170
      rcases t614 with _ | q616
      ·rw [if_pos (show (none : Option Int).isNone = true by rfl)] at H
       try simp only [errW_none, errW_some]
       have H' := Aside0.mk H
       clear H
       have p606 : 0 ≤ (x15_1 : Int) := of_decide_eq_true (by first | (with_reducible assumption) | assumption)
       have q606 : x15_1 < (y603.length : Int) := of_decide_eq_true (by first | (with_reducible assumption) | assumption)
       obtain ⟨ad606, e606, hx606_0, hx606_1, hx606_2, hx606_3⟩ := at_T103 (Kd.R_reads' HO_13.out).2.2 x15_1 p606 q606
       cases e606
       replace p606 := eq_true p606
       replace q606 := eq_true q606
       go_wp2_with (first | ((with_reducible refine gate_dst (N := 7) rfl ?_); refine box_event ?hg (N := 7) ?hd (cs := #[.int .i64 0, .bool false, .int .i64 0, .int .u64 0]) (t := 103) ?hr ?_; (case hd => rfl); (case hg => rfl); (case hr => first | (go_simp; done) | (go_simp; rfl)); intro gb607 hg w18 hbox hb; have n0_ := Aside0.mk (Kd.R_below (Kd.R_elderB (by (with_reducible repeat (first | apply Kd.R_alloc | apply Kd.R_drewN | apply Kd.R_drew)); exact HO_13.out) gb607 (Nat.le_of_eq hg.symm)) hb); have n1_ := bkB BK600 hb; have n2_ := bkB BK601 hb; have n3_ := bkB BK602 hb; have n4_ := hbS hb; have n5_ := Aside0.mk (hbox); have n6_ := geT hg; have n7_ := geT hg; have n8_ := nlT BK600 hg; have n9_ := ngT BK600 hg; have n10_ := nlT BK601 hg; have n11_ := ngT BK601 hg; have n12_ := nlT BK602 hg; have n13_ := ngT BK602 hg; clear HO_13; clear BK600; clear BK601; clear BK602; clear HB; have HO_13 := n0_; have BK600 := n1_; have BK601 := n2_; have BK602 := n3_; have HB := n4_; have BK607 := n5_; have GW607 := n6_; have GE607 := n7_; have NB600_607 := n8_; have NB607_600 := n9_; have NB601_607 := n10_; have NB607_601 := n11_; have NB602_607 := n12_; have NB607_602 := n13_; clear n0_ n1_ n2_ n3_ n4_ n5_ n6_ n7_ n8_ n9_ n10_ n11_ n12_ n13_; clear hb hbox hg; have hnb19 := NB607_600.out; have hnc19 := NB600_607.out; have hnb20 := NB607_601.out; have hnc20 := NB601_607.out; have hnb21 := NB607_602.out; have hnc21 := NB602_607.out; obtain ⟨z22_0, z22_1, z22_2, z22_3, y22_0, y22_1, y22_2, y22_3⟩ := cz4 BK607) | ((with_reducible refine gate_callee (f := 78) rfl ?_); refine goA (some 21) Try.func78 (round_Of.calls k1 ((rd_T103 y603 x15_1).f0) ((rd_T103 y603 x15_1).f1) ((rd_T103 y603 x15_1).f2) ((rd_T103 y603 x15_1).f3) t608 t609 t610 t611 t612 t613 none _ A17.out) ?_; intro w23 hb; have n0_ := Aside0.mk (Kd.R_below (by (with_reducible repeat (first | apply Kd.R_alloc | apply Kd.R_drewN | apply Kd.R_drew)); exact (Kd.R_mono (Kd.R_far (p := ⟨gb607, 3, none⟩) (Kd.R_far (p := ⟨gb607, 2, none⟩) (Kd.R_far (p := ⟨gb607, 1, none⟩) (Kd.R_far (p := ⟨gb607, 0, none⟩) (Kd.R_mono HO_13.out (fun k_ hk => (⟨hk, hk.2⟩ : _ ∧ k_ ≠ gb607))) (fun _ hk => hk.2) (.int .i64 ((rd_T103 y603 x15_1).f0))) (fun _ hk => hk.2) (.bool ((rd_T103 y603 x15_1).f1))) (fun _ hk => hk.2) (.int .i64 ((rd_T103 y603 x15_1).f2))) (fun _ hk => hk.2) (.int .u64 ((rd_T103 y603 x15_1).f3))) (fun _ h_ => h_.1))) hb); have n1_ := bkB BK600 hb; have n2_ := bkB BK601 hb; have n3_ := bkB BK602 hb; have n4_ := bkB (o := .cells #[.int .i64 ((rd_T103 y603 x15_1).f0), .bool ((rd_T103 y603 x15_1).f1), .int .i64 ((rd_T103 y603 x15_1).f2), .int .u64 ((rd_T103 y603 x15_1).f3)] 103 (0, 0)) BK607 hb; have n5_ := hbS hb; clear HO_13; clear BK600; clear BK601; clear BK602; clear BK607; clear HB; have HO_13 := n0_; have BK600 := n1_; have BK601 := n2_; have BK602 := n3_; have BK607 := n4_; have HB := n5_; clear n0_ n1_ n2_ n3_ n4_ n5_; clear hb; (try simp only [errW_none, errW_some])) | ((with_reducible refine gate_dst (N := 8) rfl ?_); refine box_event ?hg (N := 8) ?hd (cs := #[.int .i64 0, .bool false, .int .i64 0, .int .u64 0, .int .u64 0, .bool false]) (t := 86) ?hr ?_; (case hd => rfl); (case hg => rfl); (case hr => first | (go_simp; done) | (go_simp; rfl)); intro gb615 hg w24 hbox hb; have n0_ := Aside0.mk (Kd.R_below (by (with_reducible repeat (first | apply Kd.R_alloc | apply Kd.R_drewN | apply Kd.R_drew)); exact HO_13.out) hb); have n1_ := bkB BK600 hb; have n2_ := bkB BK601 hb; have n3_ := bkB BK602 hb; have n4_ := bkB BK607 hb; have n5_ := hbS hb; have n6_ := Aside0.mk (hbox); have n7_ := geT hg; have n8_ := geT hg; have n9_ := nlT BK600 hg; have n10_ := ngT BK600 hg; have n11_ := nlT BK601 hg; have n12_ := ngT BK601 hg; have n13_ := nlT BK602 hg; have n14_ := ngT BK602 hg; have n15_ := nlT BK607 hg; have n16_ := ngT BK607 hg; clear HO_13; clear BK600; clear BK601; clear BK602; clear BK607; clear HB; have HO_13 := n0_; have BK600 := n1_; have BK601 := n2_; have BK602 := n3_; have BK607 := n4_; have HB := n5_; have BK615 := n6_; have GW615 := n7_; have GE615 := n8_; have NB600_615 := n9_; have NB615_600 := n10_; have NB601_615 := n11_; have NB615_601 := n12_; have NB602_615 := n13_; have NB615_602 := n14_; have NB607_615 := n15_; have NB615_607 := n16_; clear n0_ n1_ n2_ n3_ n4_ n5_ n6_ n7_ n8_ n9_ n10_ n11_ n12_ n13_ n14_ n15_ n16_; clear hb hbox hg; have hnb25 := NB615_600.out; have hnc25 := NB600_615.out; have hnb26 := NB615_601.out; have hnc26 := NB601_615.out; have hnb27 := NB615_602.out; have hnc27 := NB602_615.out; have hnb28 := NB615_607.out; have hnc28 := NB607_615.out; obtain ⟨z29_0, z29_1, z29_2, z29_3, z29_4, z29_5, y29_0, y29_1, y29_2, y29_3, y29_4, y29_5⟩ := cz6 BK615))
       go_roundg k1
       case measure => have := HK1.out; omega
       case rel => exact ⟨(wrap64 (x15_1 + 1)), (x603000_1), (x603001_1), (x603002_1), (x603003_1), (x603004_1), (x603005_1), okT, H', ⟨by have := HK1.out; omega⟩, ⟨by (with_reducible repeat (first | apply Kd.R_alloc | apply Kd.R_drewN | apply Kd.R_drew)); exact Kd.R_mono (Kd.R_far (p := ⟨gb615, 5, none⟩) (Kd.R_far (p := ⟨gb615, 4, none⟩) (Kd.R_far (p := ⟨gb615, 3, none⟩) (Kd.R_far (p := ⟨gb615, 2, none⟩) (Kd.R_far (p := ⟨gb615, 1, none⟩) (Kd.R_far (p := ⟨gb615, 0, none⟩) (Kd.R_types HO_13.out BK615.out (by decide)) (fun _ hk => hk.2) (.int .i64 t608)) (fun _ hk => hk.2) (.bool t609)) (fun _ hk => hk.2) (.int .i64 t610)) (fun _ hk => hk.2) (.int .u64 t611)) (fun _ hk => hk.2) (.int .u64 t612)) (fun _ hk => hk.2) (.bool t613)) (fun _ hk => ⟨hk.1.1.1, hk.1.1.2⟩)⟩, ⟨bkT BK600⟩, ⟨bkT BK601⟩, ⟨bkT BK602⟩, ⟨hbT⟩⟩
      ·rw [if_neg (show ¬ (some q616).isNone = true by simp)] at H
       try simp only [errW_none, errW_some]
       simp only [Option.some.injEq, Prod.mk.injEq] at H
       obtain ⟨rfl, rfl, rfl, rfl, rfl, rfl, rfl⟩ := H
       have p606 : 0 ≤ (x15_1 : Int) := of_decide_eq_true (by first | (with_reducible assumption) | assumption)
       have q606 : x15_1 < (y603.length : Int) := of_decide_eq_true (by first | (with_reducible assumption) | assumption)
       obtain ⟨ad606, e606, hx606_0, hx606_1, hx606_2, hx606_3⟩ := at_T103 (Kd.R_reads' HO_13.out).2.2 x15_1 p606 q606
       cases e606
       replace p606 := eq_true p606
       replace q606 := eq_true q606
       go_wp2_with (first | ((with_reducible refine gate_dst (N := 7) rfl ?_); refine box_event ?hg (N := 7) ?hd (cs := #[.int .i64 0, .bool false, .int .i64 0, .int .u64 0]) (t := 103) ?hr ?_; (case hd => rfl); (case hg => rfl); (case hr => first | (go_simp; done) | (go_simp; rfl)); intro gb607 hg w30 hbox hb; have n0_ := Aside0.mk (Kd.R_below (Kd.R_elderB (by (with_reducible repeat (first | apply Kd.R_alloc | apply Kd.R_drewN | apply Kd.R_drew)); exact HO_13.out) gb607 (Nat.le_of_eq hg.symm)) hb); have n1_ := bkB BK600 hb; have n2_ := bkB BK601 hb; have n3_ := bkB BK602 hb; have n4_ := hbS hb; have n5_ := Aside0.mk (hbox); have n6_ := geT hg; have n7_ := geT hg; have n8_ := nlT BK600 hg; have n9_ := ngT BK600 hg; have n10_ := nlT BK601 hg; have n11_ := ngT BK601 hg; have n12_ := nlT BK602 hg; have n13_ := ngT BK602 hg; clear HO_13; clear BK600; clear BK601; clear BK602; clear HB; have HO_13 := n0_; have BK600 := n1_; have BK601 := n2_; have BK602 := n3_; have HB := n4_; have BK607 := n5_; have GW607 := n6_; have GE607 := n7_; have NB600_607 := n8_; have NB607_600 := n9_; have NB601_607 := n10_; have NB607_601 := n11_; have NB602_607 := n12_; have NB607_602 := n13_; clear n0_ n1_ n2_ n3_ n4_ n5_ n6_ n7_ n8_ n9_ n10_ n11_ n12_ n13_; clear hb hbox hg; have hnb31 := NB607_600.out; have hnc31 := NB600_607.out; have hnb32 := NB607_601.out; have hnc32 := NB601_607.out; have hnb33 := NB607_602.out; have hnc33 := NB602_607.out; obtain ⟨z34_0, z34_1, z34_2, z34_3, y34_0, y34_1, y34_2, y34_3⟩ := cz4 BK607) | ((with_reducible refine gate_callee (f := 78) rfl ?_); refine goA (some 21) Try.func78 (round_Of.calls k1 ((rd_T103 y603 x15_1).f0) ((rd_T103 y603 x15_1).f1) ((rd_T103 y603 x15_1).f2) ((rd_T103 y603 x15_1).f3) t608 t609 t610 t611 t612 t613 (some q616) _ A17.out) ?_; intro w35 hb; have n0_ := Aside0.mk (Kd.R_below (by (with_reducible repeat (first | apply Kd.R_alloc | apply Kd.R_drewN | apply Kd.R_drew)); exact (Kd.R_mono (Kd.R_far (p := ⟨gb607, 3, none⟩) (Kd.R_far (p := ⟨gb607, 2, none⟩) (Kd.R_far (p := ⟨gb607, 1, none⟩) (Kd.R_far (p := ⟨gb607, 0, none⟩) (Kd.R_mono HO_13.out (fun k_ hk => (⟨hk, hk.2⟩ : _ ∧ k_ ≠ gb607))) (fun _ hk => hk.2) (.int .i64 ((rd_T103 y603 x15_1).f0))) (fun _ hk => hk.2) (.bool ((rd_T103 y603 x15_1).f1))) (fun _ hk => hk.2) (.int .i64 ((rd_T103 y603 x15_1).f2))) (fun _ hk => hk.2) (.int .u64 ((rd_T103 y603 x15_1).f3))) (fun _ h_ => h_.1))) hb); have n1_ := bkB BK600 hb; have n2_ := bkB BK601 hb; have n3_ := bkB BK602 hb; have n4_ := bkB (o := .cells #[.int .i64 ((rd_T103 y603 x15_1).f0), .bool ((rd_T103 y603 x15_1).f1), .int .i64 ((rd_T103 y603 x15_1).f2), .int .u64 ((rd_T103 y603 x15_1).f3)] 103 (0, 0)) BK607 hb; have n5_ := hbS hb; clear HO_13; clear BK600; clear BK601; clear BK602; clear BK607; clear HB; have HO_13 := n0_; have BK600 := n1_; have BK601 := n2_; have BK602 := n3_; have BK607 := n4_; have HB := n5_; clear n0_ n1_ n2_ n3_ n4_ n5_; clear hb; (try simp only [errW_none, errW_some])) | ((with_reducible refine gate_dst (N := 8) rfl ?_); refine box_event ?hg (N := 8) ?hd (cs := #[.int .i64 0, .bool false, .int .i64 0, .int .u64 0, .int .u64 0, .bool false]) (t := 86) ?hr ?_; (case hd => rfl); (case hg => rfl); (case hr => first | (go_simp; done) | (go_simp; rfl)); intro gb615 hg w36 hbox hb; have n0_ := Aside0.mk (Kd.R_below (by (with_reducible repeat (first | apply Kd.R_alloc | apply Kd.R_drewN | apply Kd.R_drew)); exact HO_13.out) hb); have n1_ := bkB BK600 hb; have n2_ := bkB BK601 hb; have n3_ := bkB BK602 hb; have n4_ := bkB BK607 hb; have n5_ := hbS hb; have n6_ := Aside0.mk (hbox); have n7_ := geT hg; have n8_ := geT hg; have n9_ := nlT BK600 hg; have n10_ := ngT BK600 hg; have n11_ := nlT BK601 hg; have n12_ := ngT BK601 hg; have n13_ := nlT BK602 hg; have n14_ := ngT BK602 hg; have n15_ := nlT BK607 hg; have n16_ := ngT BK607 hg; clear HO_13; clear BK600; clear BK601; clear BK602; clear BK607; clear HB; have HO_13 := n0_; have BK600 := n1_; have BK601 := n2_; have BK602 := n3_; have BK607 := n4_; have HB := n5_; have BK615 := n6_; have GW615 := n7_; have GE615 := n8_; have NB600_615 := n9_; have NB615_600 := n10_; have NB601_615 := n11_; have NB615_601 := n12_; have NB602_615 := n13_; have NB615_602 := n14_; have NB607_615 := n15_; have NB615_607 := n16_; clear n0_ n1_ n2_ n3_ n4_ n5_ n6_ n7_ n8_ n9_ n10_ n11_ n12_ n13_ n14_ n15_ n16_; clear hb hbox hg; have hnb37 := NB615_600.out; have hnc37 := NB600_615.out; have hnb38 := NB615_601.out; have hnc38 := NB601_615.out; have hnb39 := NB615_602.out; have hnc39 := NB602_615.out; have hnb40 := NB615_607.out; have hnc40 := NB607_615.out; obtain ⟨z41_0, z41_1, z41_2, z41_3, z41_4, z41_5, y41_0, y41_1, y41_2, y41_3, y41_4, y41_5⟩ := cz6 BK615; have hnb42 := NB602_600.out; have hnc42 := NB600_602.out; have hnb43 := NB602_601.out; have hnc43 := NB601_602.out; obtain ⟨z44_0, z44_1, z44_2, z44_3, z44_4, z44_5, y44_0, y44_1, y44_2, y44_3, y44_4, y44_5⟩ := cz6 BK602))
       refine bodyPost_ret (results_ct rfl _ _ gb602 86 #[.int .i64 0, .bool false, .int .i64 0, .int .u64 0, .int .u64 0, .bool false] (0, 0) _ rfl (bkT BK602) Try.underlying86 rfl (by kernel_rfl)) rfl ?_
       exact ⟨reT, hbT⟩
     ·rw [if_neg c16] at H
      exact absurd H (by simp)
    ·rw [if_neg c15] at H
     exact absurd H (by simp)
   ·rw [if_neg c14] at H
    have c14b0 : decide (x15_1 < (y603.length : Int)) = false := decide_eq_false c14
    clear c14
    have HC45 := Aside0.mk H
    clear H
    have hnb46 := NB600_601.out
    have hnc46 := NB601_600.out
    have hnb47 := NB600_602.out
    have hnc47 := NB602_600.out
    obtain ⟨z48_0, z48_1, z48_2, z48_3, y48_0, y48_1, y48_2, y48_3⟩ := cz4 BK600
    go_upto_if 29 with (fail)
    go_cut [29] (fun v29 wc => ∃ (kq : Nat) (x29_44 : Bool), v29 = .bool x29_44 ∧ Aside0 (prod_Exact.j1 kq x29_44 a0_0 a0_1 a0_2 a0_3 a1_0 a1_1 a1_2 a1_3 = some (r1, r2, r3, r4, r5, r6, r7)) ∧ Aside0 (kq ≤ k1) ∧ Aside0 (wc.heap[gb600]? = some (.cells #[.int .i64 a0_0, .bool a0_1, .int .i64 a0_2, .int .u64 a0_3] 103 (0, 0))) ∧ Aside0 (wc.heap[gb601]? = some (.cells #[.int .i64 a1_0, .bool a1_1, .int .i64 a1_2, .int .u64 a1_3] 103 (0, 0))) ∧ Aside0 (wc.heap[gb602]? = some (.cells #[.int .i64 x603000_1, .bool x603001_1, .int .i64 x603002_1, .int .u64 x603003_1, .int .u64 x603004_1, .bool x603005_1] 86 (0, 0))) ∧ Aside0 (Below w.heap.size w wc))
    case first =>
     have H := HC45.out
     clear HC45
     by_cases c49 : a0_0 = 2
     ·rw [if_pos c49] at H
      obtain ⟨c49b0, c49b1⟩ := eqY c49
      clear c49
      (first | rw [c49b0] | (simp only [i64_w, i32_w]; rw [c49b0]) | rw [c49b1] | skip)
      have H' := Aside0.mk H
      clear H
      go_wp2
      go_meet
      case rel => exact ⟨_, ((a0_0 == 2)), okT, H', ⟨by have := HK1.out; first | omega | exact Nat.le_refl _⟩, ⟨bkT BK600⟩, ⟨bkT BK601⟩, ⟨bkT BK602⟩, ⟨hbT⟩⟩
     ·rw [if_neg c49] at H
      obtain ⟨c49b0, c49b1⟩ := eqN c49
      (first | rw [c49b0] | (simp only [i64_w, i32_w]; rw [c49b0]) | rw [c49b1] | skip)
      have H' := Aside0.mk H
      clear H
      have hnb50 := NB601_600.out
      have hnc50 := NB600_601.out
      have hnb51 := NB601_602.out
      have hnc51 := NB602_601.out
      obtain ⟨z52_0, z52_1, z52_2, z52_3, y52_0, y52_1, y52_2, y52_3⟩ := cz4 BK601
      go_wp2
      go_meet
      case rel => exact ⟨_, ((a1_0 == 2)), okT, H', ⟨by have := HK1.out; first | omega | exact Nat.le_refl _⟩, ⟨bkT BK600⟩, ⟨bkT BK601⟩, ⟨bkT BK602⟩, ⟨hbT⟩⟩
    case rest =>
     clear HC45
     try clear c14
     try clear c14b0
     try clear z48_0 z48_1 z48_2 z48_3 y48_0 y48_1 y48_2 y48_3
     obtain ⟨kq, x29_44, rfl, HA, HJ44, BK600, BK601, BK602, HB⟩ := hcut
     cases kq with
     | zero => exact absurd HA.out (by simp [prod_Exact.j1])
     | succ kj44 =>
      have H := HA.out
      clear HA
      simp only [prod_Exact.j1] at H
      by_cases c53 : x29_44 = true
      ·subst c53
       rw [if_pos rfl] at H
       simp only [Option.some.injEq, Prod.mk.injEq] at H
       obtain ⟨rfl, rfl, rfl, rfl, rfl, rfl, rfl⟩ := H
       have hnb54 := NB602_600.out
       have hnc54 := NB600_602.out
       have hnb55 := NB602_601.out
       have hnc55 := NB601_602.out
       obtain ⟨z56_0, z56_1, z56_2, z56_3, z56_4, z56_5, y56_0, y56_1, y56_2, y56_3, y56_4, y56_5⟩ := cz6 BK602
       go_wp2
       refine bodyPost_ret (results_ct rfl _ _ gb602 86 #[.int .i64 2, .bool false, .int .i64 0, .int .u64 0, .int .u64 0, .bool false] (0, 0) _ rfl (bkT BK602) Try.underlying86 rfl (by kernel_rfl)) rfl ?_
       exact ⟨reT, hbT⟩
      ·replace c53 := Bool.eq_false_iff.mpr c53
       subst c53
       rw [if_neg (show ¬ (false = true) by decide)] at H
       have HC57 := Aside0.mk H
       clear H
       have hnb58 := NB600_601.out
       have hnc58 := NB601_600.out
       have hnb59 := NB600_602.out
       have hnc59 := NB602_600.out
       obtain ⟨z60_0, z60_1, z60_2, z60_3, y60_0, y60_1, y60_2, y60_3⟩ := cz4 BK600
       go_upto_if 37 with (fail)
       go_cut [37] (fun v37 wc => ∃ (kq : Nat) (x37_56 : Bool), v37 = .bool x37_56 ∧ Aside0 (prod_Exact.j2 kq x37_56 a0_0 a0_1 a0_2 a0_3 a1_0 a1_1 a1_2 a1_3 = some (r1, r2, r3, r4, r5, r6, r7)) ∧ Aside0 (kq ≤ kj44) ∧ Aside0 (wc.heap[gb600]? = some (.cells #[.int .i64 a0_0, .bool a0_1, .int .i64 a0_2, .int .u64 a0_3] 103 (0, 0))) ∧ Aside0 (wc.heap[gb601]? = some (.cells #[.int .i64 a1_0, .bool a1_1, .int .i64 a1_2, .int .u64 a1_3] 103 (0, 0))) ∧ Aside0 (wc.heap[gb602]? = some (.cells #[.int .i64 x603000_1, .bool x603001_1, .int .i64 x603002_1, .int .u64 x603003_1, .int .u64 x603004_1, .bool x603005_1] 86 (0, 0))) ∧ Aside0 (Below w.heap.size w wc))
       case first =>
        have H := HC57.out
        clear HC57
        by_cases c61 : a0_0 = 0
        ·rw [if_pos c61] at H
         obtain ⟨c61b0, c61b1⟩ := eqY c61
         clear c61
         (first | rw [c61b0] | (simp only [i64_w, i32_w]; rw [c61b0]) | rw [c61b1] | skip)
         have H' := Aside0.mk H
         clear H
         go_wp2
         go_meet
         case rel => exact ⟨_, ((a0_0 == 0)), okT, H', ⟨by have := HK1.out; have := HJ44.out; first | omega | exact Nat.le_refl _⟩, ⟨bkT BK600⟩, ⟨bkT BK601⟩, ⟨bkT BK602⟩, ⟨hbT⟩⟩
        ·rw [if_neg c61] at H
         obtain ⟨c61b0, c61b1⟩ := eqN c61
         (first | rw [c61b0] | (simp only [i64_w, i32_w]; rw [c61b0]) | rw [c61b1] | skip)
         have H' := Aside0.mk H
         clear H
         have hnb62 := NB601_600.out
         have hnc62 := NB600_601.out
         have hnb63 := NB601_602.out
         have hnc63 := NB602_601.out
         obtain ⟨z64_0, z64_1, z64_2, z64_3, y64_0, y64_1, y64_2, y64_3⟩ := cz4 BK601
         go_wp2
         go_meet
         case rel => exact ⟨_, ((a1_0 == 0)), okT, H', ⟨by have := HK1.out; have := HJ44.out; first | omega | exact Nat.le_refl _⟩, ⟨bkT BK600⟩, ⟨bkT BK601⟩, ⟨bkT BK602⟩, ⟨hbT⟩⟩
       case rest =>
        clear HC57
        try clear c53
        try clear z60_0 z60_1 z60_2 z60_3 y60_0 y60_1 y60_2 y60_3
        obtain ⟨kq, x37_56, rfl, HA, HJ56, BK600, BK601, BK602, HB⟩ := hcut
        cases kq with
        | zero => exact absurd HA.out (by simp [prod_Exact.j2])
        | succ kj56 =>
         have H := HA.out
         clear HA
         simp only [prod_Exact.j2] at H
         by_cases c65 : x37_56 = true
         ·subst c65
          rw [if_pos rfl] at H
          simp only [Option.some.injEq, Prod.mk.injEq] at H
          obtain ⟨rfl, rfl, rfl, rfl, rfl, rfl, rfl⟩ := H
          have hnb66 := NB602_600.out
          have hnc66 := NB600_602.out
          have hnb67 := NB602_601.out
          have hnc67 := NB601_602.out
          obtain ⟨z68_0, z68_1, z68_2, z68_3, z68_4, z68_5, y68_0, y68_1, y68_2, y68_3, y68_4, y68_5⟩ := cz6 BK602
          go_wp2
          refine bodyPost_ret (results_ct rfl _ _ gb602 86 #[.int .i64 0, .bool false, .int .i64 0, .int .u64 0, .int .u64 0, .bool false] (0, 0) _ rfl (bkT BK602) Try.underlying86 rfl (by kernel_rfl)) rfl ?_
          exact ⟨reT, hbT⟩
         ·replace c65 := Bool.eq_false_iff.mpr c65
          subst c65
          rw [if_neg (show ¬ (false = true) by decide)] at H
          replace H := Option.bind_eq_some_iff.mp H
          obtain ⟨⟨t617, t618⟩, A690, H⟩ := H
          try dsimp only at H
          have A69 := Aside0.mk A690
          clear A690
          replace H := Option.bind_eq_some_iff.mp H
          obtain ⟨⟨t620, t621, t622, t623, t624, t625, t626⟩, A700, H⟩ := H
          try dsimp only at H
          have A70 := Aside0.mk A700
          clear A700
          simp only [Option.some.injEq, Prod.mk.injEq] at H
          obtain ⟨rfl, rfl, rfl, rfl, rfl, rfl, rfl⟩ := H
          have hnb71 := NB600_601.out
          have hnc71 := NB601_600.out
          have hnb72 := NB600_602.out
          have hnc72 := NB602_600.out
          obtain ⟨z73_0, z73_1, z73_2, z73_3, y73_0, y73_1, y73_2, y73_3⟩ := cz4 BK600
          have hnb74 := NB601_602.out
          have hnc74 := NB602_601.out
          obtain ⟨z75_0, z75_1, z75_2, z75_3, y75_0, y75_1, y75_2, y75_3⟩ := cz4 BK601
          go_wp2_with (first | ((with_reducible refine gate_callee (f := 119) rfl ?_); refine goA (some 49) Try.func119 (twin_Mul.calls a0_3 a1_3 t617 t618 _ A69.out) ?_; intro w76 hb; replace BK600 := bkB BK600 hb; replace BK601 := bkB BK601 hb; replace BK602 := bkB BK602 hb; replace HB := hbS hb; clear hb) | ((with_reducible refine gate_dst (N := 10) rfl ?_); refine boxA 10 (#[.int .u64 0, .int .u64 0]) 155 ?_; intro gb619 hg w77 BK619 hb; have GW619 := geT hg; have GE619 := GW619; obtain ⟨NB600_619, NB619_600⟩ := neT BK600 hg; obtain ⟨NB601_619, NB619_601⟩ := neT BK601 hg; obtain ⟨NB602_619, NB619_602⟩ := neT BK602 hg; replace BK600 := bkB BK600 hb; replace BK601 := bkB BK601 hb; replace BK602 := bkB BK602 hb; replace HB := hbS hb; clear hb hg; have hnb78 := NB619_600.out; have hnc78 := NB600_619.out; have hnb79 := NB619_601.out; have hnc79 := NB601_619.out; have hnb80 := NB619_602.out; have hnc80 := NB602_619.out; obtain ⟨z81_0, z81_1, y81_0, y81_1⟩ := cz2 BK619; obtain ⟨z82_0, z82_1, z82_2, z82_3, y82_0, y82_1, y82_2, y82_3⟩ := cz4 BK600; obtain ⟨z83_0, z83_1, z83_2, z83_3, y83_0, y83_1, y83_2, y83_3⟩ := cz4 BK601) | ((with_reducible refine gate_callee (f := 120) rfl ?_); refine goA (some 65) Try.func120 (round_Make.calls kj56 (a0_1 != a1_1) t617 t618 (wrap64 ((wrap64 (a0_2 + a1_2)) - 126)) false t620 t621 t622 t623 t624 t625 t626 _ A70.out) ?_; intro w84 hb; replace BK600 := bkB BK600 hb; replace BK601 := bkB BK601 hb; replace BK602 := bkB BK602 hb; replace BK619 := bkB (o := .cells #[.int .u64 t617, .int .u64 t618] 155 (0, 0)) BK619 hb; replace HB := hbS hb; clear hb; (try simp only [errW_none, errW_some]); obtain ⟨z85_0, z85_1, z85_2, z85_3, z85_4, z85_5, y85_0, y85_1, y85_2, y85_3, y85_4, y85_5⟩ := cz6 BK602))
          refine bodyPost_ret (results_ct rfl _ _ gb602 86 #[.int .i64 t620, .bool t621, .int .i64 t622, .int .u64 t623, .int .u64 t624, .bool t625] (0, 0) _ rfl (bkT BK602) Try.underlying86 rfl (by kernel_rfl)) rfl ?_
          exact ⟨reT, hbT⟩
end Go.Proofs.Ytnlbfomlfhigcaa.Q
