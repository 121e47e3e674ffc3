/- Walks and plain laws that the claim stands on: each theorem named calls says that a call of a function returns what its f computes; the others are plain laws of these f, and the words that the walks use. -/
import Derived.Lib.ItoaNum
import Derived.Test.YtnlbfomlfhigcaaGenConvertsV2
import Derived.Test.YtnlbfomlfhigcaaGenConvertsV16
import Derived.Test.YtnlbfomlfhigcaaGenConvertsV13
import Derived.Test.YtnlbfomlfhigcaaGenConvertsV15
import Derived.Test.YtnlbfomlfhigcaaGenConvertsV7
import Derived.Test.YtnlbfomlfhigcaaGenConvertsV12
import Derived.Test.YtnlbfomlfhigcaaGenConvertsV3
namespace Go.Proofs.Ytnlbfomlfhigcaa.Q
open Go.RowKit Go.Proofs.YtnlbfomlfhigcaaW.PrintWords Go.Proofs.YtnlbfomlfhigcaaW.PrintLast Go.Proofs.YtnlbfomlfhigcaaW.PrintMore
attribute [local go_sem] max2_int min2_int max_two min_two max_three min_three max_four min_four
set_option linter.unusedVariables false
set_option linter.unusedSimpArgs false
def vernierref07_Rounds.j0 : Nat → Int → Int → Bool → Int → Bool → Int → Int → Int → Bool → Option (Int × Int)
 | 0, _, _, _, _, _, _, _, _, _ => none
 | k + 1, x0, x6, x29, x464000, x464001, x464002, x464003, x464004, x464005 => if x29 = true then (if x464001 = true then ((vernierref06_Neg.f k x0 (IntKind.u64.wrap (x6 + 1))).bind fun t467 => (some (t467, 0))) else (some (IntKind.u64.wrap (x6 + 1), 0))) else (if x464001 = true then ((vernierref06_Neg.f k x0 x6).bind fun t468 => (some (t468, 0))) else (some (x6, 0)))
def vernierref07_Rounds.f (k : Nat) (a0 : Int) (a1_0 : Int) (a1_1 : Bool) (a1_2 : Int) (a1_3 : Int) (a1_4 : Int) (a1_5 : Bool) : Option (Int × Int) := (vernierref07_Cut.f k a0 a1_0 a1_1 a1_2 a1_3 a1_4 a1_5).bind fun bt464 => (if bt464.2.2 = 0 then (if bt464.2.1 = 3 then (vernierref07_Rounds.j0 k a0 bt464.1 true a1_0 a1_1 a1_2 a1_3 a1_4 a1_5) else (if bt464.2.1 = 2 then (vernierref07_Rounds.j0 k a0 bt464.1 ((Int.tmod bt464.1 2) == 1) a1_0 a1_1 a1_2 a1_3 a1_4 a1_5) else (vernierref07_Rounds.j0 k a0 bt464.1 false a1_0 a1_1 a1_2 a1_3 a1_4 a1_5))) else (some (0, bt464.2.2)))
set_option maxHeartbeats 8000000 in
set_option maxRecDepth 100000 in
theorem vernierref07_Rounds.calls (k : Nat) (a0 : Int) (a1_0 : Int) (a1_1 : Bool) (a1_2 : Int) (a1_3 : Int) (a1_4 : Int) (a1_5 : Bool) (r1 : Int) (r2 : Int) (w : World) (h : vernierref07_Rounds.f k a0 a1_0 a1_1 a1_2 a1_3 a1_4 a1_5 = some (r1, r2)) :
  Calls Try.prog 107 #[.int .i64 a0, .agg #[.int .i64 a1_0, .bool a1_1, .int .i64 a1_2, .int .u64 a1_3, .int .u64 a1_4, .bool a1_5]] w fun e w' => e = .returned (.tuple #[.int .u64 r1, .int .i64 r2]) ∧ Below w.heap.size w w' := by
 have hu86 := Try.underlying86
 have HB := Aside0.mk (Below.refl w.heap.size w)
 have H := h
 clear h
 unfold vernierref07_Rounds.f at H
 replace H := Option.bind_eq_some_iff.mp H
 obtain ⟨⟨t464, t465, t466⟩, A30, H⟩ := H
 try dsimp only at H
 have A3 := Aside0.mk A30
 clear A30
 by_cases c4 : t466 = 0
 ·rw [if_pos c4] at H
  obtain ⟨c4b0, c4b1⟩ := eqY c4
  clear c4
  have HC5 := Aside0.mk H
  clear H
  go_enter Try.func107, Try.ntmps107
  go_upto_region 4 with (first | ((with_reducible refine gate_dst (N := 3) rfl ?_); refine boxA 3 (#[.int .i64 a1_0, .bool a1_1, .int .i64 a1_2, .int .u64 a1_3, .int .u64 a1_4, .bool a1_5]) 86 ?_; intro gb463 hg w6 BK463 hb; have GW463 := geT hg; have GE463 := GW463; replace HB := hbS hb; clear hb hg; obtain ⟨z7_0, z7_1, z7_2, z7_3, z7_4, z7_5, y7_0, y7_1, y7_2, y7_3, y7_4, y7_5⟩ := cz6 BK463) | ((with_reducible refine gate_callee (f := 134) rfl ?_); refine goA (some 12) Try.func134 (vernierref07_Cut.calls k a0 a1_0 a1_1 a1_2 a1_3 a1_4 a1_5 t464 t465 t466 _ A3.out) ?_; intro w8 hb; replace BK463 := bkB BK463 hb; replace HB := hbS hb; clear hb))
  (try simp only [Act.put, List.setIfInBounds_toArray, List.set_cons_zero, List.set_cons_succ])
  go_cut [29] (fun v29 wc => ∃ (kq : Nat) (x29_4 : Bool), v29 = .bool x29_4 ∧ Aside0 (vernierref07_Rounds.j0 kq a0 t464 x29_4 a1_0 a1_1 a1_2 a1_3 a1_4 a1_5 = some (r1, r2)) ∧ Aside0 (kq ≤ k) ∧ Aside0 (wc.heap[gb463]? = some (.cells #[.int .i64 a1_0, .bool a1_1, .int .i64 a1_2, .int .u64 a1_3, .int .u64 a1_4, .bool a1_5] 86 (0, 0))) ∧ Aside0 (Below w.heap.size w wc))
  case first =>
   have H := HC5.out
   clear HC5
   by_cases c9 : t465 = 3
   ·rw [if_pos c9] at H
    obtain ⟨c9b0, c9b1⟩ := eqY c9
    clear c9
    (first | rw [c9b0] | (simp only [i64_w, i32_w]; rw [c9b0]) | rw [c9b1] | skip)
    have H' := Aside0.mk H
    clear H
    go_wp2
    go_meet
    case rel => exact ⟨_, (true), okT, H', leT, ⟨bkT BK463⟩, ⟨hbT⟩⟩
   ·rw [if_neg c9] at H
    obtain ⟨c9b0, c9b1⟩ := eqN c9
    (first | rw [c9b0] | (simp only [i64_w, i32_w]; rw [c9b0]) | rw [c9b1] | skip)
    by_cases c10 : t465 = 2
    ·rw [if_pos c10] at H
     obtain ⟨c10b0, c10b1⟩ := eqY c10
     clear c10
     have H' := Aside0.mk H
     clear H
     go_wp2
     go_meet
     case rel => exact ⟨_, (((Int.tmod t464 2) == 1)), okT, H', leT, ⟨bkT BK463⟩, ⟨hbT⟩⟩
    ·rw [if_neg c10] at H
     obtain ⟨c10b0, c10b1⟩ := eqN c10
     have H' := Aside0.mk H
     clear H
     go_wp2
     go_meet
     case rel => exact ⟨_, (false), okT, H', leT, ⟨bkT BK463⟩, ⟨hbT⟩⟩
  case rest =>
   clear HC5
   try clear c4
   try clear c4b0
   try clear c4b1
   try clear z7_0 z7_1 z7_2 z7_3 z7_4 z7_5 y7_0 y7_1 y7_2 y7_3 y7_4 y7_5
   obtain ⟨kq, x29_4, rfl, HA, HJ4, BK463, HB⟩ := hcut
   cases kq with
   | zero => exact absurd HA.out (by simp [vernierref07_Rounds.j0])
   | succ kj4 =>
    have H := HA.out
    clear HA
    simp only [vernierref07_Rounds.j0] at H
    by_cases c11 : x29_4 = true
    ·subst c11
     rw [if_pos rfl] at H
     by_cases c12 : a1_1 = true
     ·subst c12
      rw [if_pos rfl] at H
      replace H := Option.bind_eq_some_iff.mp H
      obtain ⟨t467, A130, H⟩ := H
      try dsimp only at H
      have A13 := Aside0.mk A130
      clear A130
      simp only [Option.some.injEq, Prod.mk.injEq] at H
      obtain ⟨rfl, rfl⟩ := H
      obtain ⟨z14_0, z14_1, z14_2, z14_3, z14_4, z14_5, y14_0, y14_1, y14_2, y14_3, y14_4, y14_5⟩ := cz6 BK463
      go_wp2_with (first | ((with_reducible refine gate_callee (f := 135) rfl ?_); refine goA (some 36) Try.func135 (vernierref06_Neg.calls kj4 a0 (IntKind.u64.wrap (t464 + 1)) t467 _ A13.out) ?_; intro w15 hb; replace BK463 := bkB BK463 hb; replace HB := hbS hb; clear hb))
      go_ret2
      exact ⟨reT, hbT⟩
     ·replace c12 := Bool.eq_false_iff.mpr c12
      subst c12
      rw [if_neg (show ¬ (false = true) by decide)] at H
      simp only [Option.some.injEq, Prod.mk.injEq] at H
      obtain ⟨rfl, rfl⟩ := H
      obtain ⟨z16_0, z16_1, z16_2, z16_3, z16_4, z16_5, y16_0, y16_1, y16_2, y16_3, y16_4, y16_5⟩ := cz6 BK463
      go_wp2
      go_ret2
      exact ⟨reT, hbT⟩
    ·replace c11 := Bool.eq_false_iff.mpr c11
     subst c11
     rw [if_neg (show ¬ (false = true) by decide)] at H
     by_cases c17 : a1_1 = true
     ·subst c17
      rw [if_pos rfl] at H
      replace H := Option.bind_eq_some_iff.mp H
      obtain ⟨t468, A180, H⟩ := H
      try dsimp only at H
      have A18 := Aside0.mk A180
      clear A180
      simp only [Option.some.injEq, Prod.mk.injEq] at H
      obtain ⟨rfl, rfl⟩ := H
      obtain ⟨z19_0, z19_1, z19_2, z19_3, z19_4, z19_5, y19_0, y19_1, y19_2, y19_3, y19_4, y19_5⟩ := cz6 BK463
      go_wp2_with (first | ((with_reducible refine gate_callee (f := 135) rfl ?_); refine goA (some 36) Try.func135 (vernierref06_Neg.calls kj4 a0 t464 t468 _ A18.out) ?_; intro w20 hb; replace BK463 := bkB BK463 hb; replace HB := hbS hb; clear hb))
      go_ret2
      exact ⟨reT, hbT⟩
     ·replace c17 := Bool.eq_false_iff.mpr c17
      subst c17
      rw [if_neg (show ¬ (false = true) by decide)] at H
      simp only [Option.some.injEq, Prod.mk.injEq] at H
      obtain ⟨rfl, rfl⟩ := H
      obtain ⟨z21_0, z21_1, z21_2, z21_3, z21_4, z21_5, y21_0, y21_1, y21_2, y21_3, y21_4, y21_5⟩ := cz6 BK463
      go_wp2
      go_ret2
      exact ⟨reT, hbT⟩
 ·rw [if_neg c4] at H
  obtain ⟨c4b0, c4b1⟩ := eqN c4
  simp only [Option.some.injEq, Prod.mk.injEq] at H
  obtain ⟨rfl, rfl⟩ := H
  go_enter Try.func107, Try.ntmps107
  go_wp2_with (first | ((with_reducible refine gate_dst (N := 3) rfl ?_); refine boxA 3 (#[.int .i64 a1_0, .bool a1_1, .int .i64 a1_2, .int .u64 a1_3, .int .u64 a1_4, .bool a1_5]) 86 ?_; intro gb463 hg w22 BK463 hb; have GW463 := geT hg; have GE463 := GW463; replace HB := hbS hb; clear hb hg; obtain ⟨z23_0, z23_1, z23_2, z23_3, z23_4, z23_5, y23_0, y23_1, y23_2, y23_3, y23_4, y23_5⟩ := cz6 BK463) | ((with_reducible refine gate_callee (f := 134) rfl ?_); refine goA (some 12) Try.func134 (vernierref07_Cut.calls k a0 a1_0 a1_1 a1_2 a1_3 a1_4 a1_5 t464 t465 t466 _ A3.out) ?_; intro w24 hb; replace BK463 := bkB BK463 hb; replace HB := hbS hb; clear hb))
  go_ret2
  exact ⟨reT, hbT⟩
end Go.Proofs.Ytnlbfomlfhigcaa.Q
namespace Go.Proofs.Ytnlbfomlfhigcaa.Q
open Go.RowKit Go.Proofs.YtnlbfomlfhigcaaW.PrintWords Go.Proofs.YtnlbfomlfhigcaaW.PrintLast Go.Proofs.YtnlbfomlfhigcaaW.PrintMore
attribute [local go_sem] max2_int min2_int max_two min_two max_three min_three max_four min_four
set_option linter.unusedVariables false
set_option linter.unusedSimpArgs false
def vernierref07_Round.f (k : Nat) (a0 : Int) (a1_0 : Int) (a1_1 : Bool) (a1_2 : Int) (a1_3 : Int) (a1_4 : Int) (a1_5 : Bool) : Option (Int) := (vernierref07_Rounds.f k a0 a1_0 a1_1 a1_2 a1_3 a1_4 a1_5).bind fun bt470 => (some bt470.1)
set_option maxHeartbeats 8000000 in
set_option maxRecDepth 100000 in
theorem vernierref07_Round.calls (k : Nat) (a0 : Int) (a1_0 : Int) (a1_1 : Bool) (a1_2 : Int) (a1_3 : Int) (a1_4 : Int) (a1_5 : Bool) (r : Int) (w : World) (h : vernierref07_Round.f k a0 a1_0 a1_1 a1_2 a1_3 a1_4 a1_5 = some r) :
  Calls Try.prog 85 #[.int .i64 a0, .agg #[.int .i64 a1_0, .bool a1_1, .int .i64 a1_2, .int .u64 a1_3, .int .u64 a1_4, .bool a1_5]] w fun e w' => e = .returned (.int .u64 r) ∧ Below w.heap.size w w' := by
 have hu86 := Try.underlying86
 have HB := Aside0.mk (Below.refl w.heap.size w)
 have H := h
 clear h
 unfold vernierref07_Round.f at H
 replace H := Option.bind_eq_some_iff.mp H
 obtain ⟨⟨t470, t471⟩, A30, H⟩ := H
 try dsimp only at H
 have A3 := Aside0.mk A30
 clear A30
 obtain rfl := Option.some.inj H
 go_enter Try.func85, Try.ntmps85
 go_wp2_with (first | ((with_reducible refine gate_dst (N := 3) rfl ?_); refine boxA 3 (#[.int .i64 a1_0, .bool a1_1, .int .i64 a1_2, .int .u64 a1_3, .int .u64 a1_4, .bool a1_5]) 86 ?_; intro gb469 hg w4 BK469 hb; have GW469 := geT hg; have GE469 := GW469; replace HB := hbS hb; clear hb hg; obtain ⟨z5_0, z5_1, z5_2, z5_3, z5_4, z5_5, y5_0, y5_1, y5_2, y5_3, y5_4, y5_5⟩ := cz6 BK469) | ((with_reducible refine gate_callee (f := 107) rfl ?_); refine goA (some 10) Try.func107 (vernierref07_Rounds.calls k a0 a1_0 a1_1 a1_2 a1_3 a1_4 a1_5 t470 t471 _ A3.out) ?_; intro w6 hb; replace BK469 := bkB BK469 hb; replace HB := hbS hb; clear hb))
 go_ret
 exact ⟨reT, hbT⟩
end Go.Proofs.Ytnlbfomlfhigcaa.Q
namespace Go.Proofs.Ytnlbfomlfhigcaa.Q
open Go.RowKit Go.Proofs.YtnlbfomlfhigcaaW.PrintWords Go.Proofs.YtnlbfomlfhigcaaW.PrintLast Go.Proofs.YtnlbfomlfhigcaaW.PrintMore
attribute [local go_sem] max2_int min2_int max_two min_two max_three min_three max_four min_four
set_option linter.unusedVariables false
set_option linter.unusedSimpArgs false
def vernierref14_Convert.f (k : Nat) (a0 : Int) (a1 : Int) (a2 : Int) : Option (Int) := (vernierref06_Decode.f k a0 a2).bind fun bt472 => ((vernierref07_Of.f bt472.1 bt472.2.1 bt472.2.2.1 bt472.2.2.2).bind fun bt476 => ((vernierref07_Round.f k a1 bt476.1 bt476.2.1 bt476.2.2.1 bt476.2.2.2.1 bt476.2.2.2.2.1 bt476.2.2.2.2.2.1).bind fun t484 => (some t484)))
set_option maxHeartbeats 8000000 in
set_option maxRecDepth 100000 in
theorem vernierref14_Convert.calls (k : Nat) (a0 : Int) (a1 : Int) (a2 : Int) (r : Int) (w : World) (h : vernierref14_Convert.f k a0 a1 a2 = some r) :
  Calls Try.prog 37 #[.int .i64 a0, .int .i64 a1, .int .u64 a2] w fun e w' => e = .returned (.int .u64 r) ∧ Below w.heap.size w w' := by
 have hu86 := Try.underlying86
 have HB := Aside0.mk (Below.refl w.heap.size w)
 have H := h
 clear h
 unfold vernierref14_Convert.f at H
 replace H := Option.bind_eq_some_iff.mp H
 obtain ⟨⟨t472, t473, t474, t475⟩, A40, H⟩ := H
 try dsimp only at H
 have A4 := Aside0.mk A40
 clear A40
 replace H := Option.bind_eq_some_iff.mp H
 obtain ⟨⟨t476, t477, t478, t479, t480, t481, t482⟩, A50, H⟩ := H
 try dsimp only at H
 have A5 := Aside0.mk A50
 clear A50
 replace H := Option.bind_eq_some_iff.mp H
 obtain ⟨t484, A60, H⟩ := H
 try dsimp only at H
 have A6 := Aside0.mk A60
 clear A60
 obtain rfl := Option.some.inj H
 go_enter Try.func37, Try.ntmps37
 go_wp2_with (first | ((with_reducible refine gate_callee (f := 84) rfl ?_); refine goA (some 12) Try.func84 (vernierref06_Decode.calls k a0 a2 t472 t473 t474 t475 _ A4.out) ?_; intro w7 hb; replace HB := hbS hb; clear hb) | ((with_reducible refine gate_callee (f := 83) rfl ?_); refine goA (some 13) Try.func83 (vernierref07_Of.calls t472 t473 t474 t475 t476 t477 t478 t479 t480 t481 t482 _ A5.out) ?_; intro w8 hb; replace HB := hbS hb; clear hb) | ((with_reducible refine gate_dst (N := 7) rfl ?_); refine boxA 7 (#[.int .i64 0, .bool false, .int .i64 0, .int .u64 0, .int .u64 0, .bool false]) 86 ?_; intro gb483 hg w9 BK483 hb; have GW483 := geT hg; have GE483 := GW483; replace HB := hbS hb; clear hb hg; obtain ⟨z10_0, z10_1, z10_2, z10_3, z10_4, z10_5, y10_0, y10_1, y10_2, y10_3, y10_4, y10_5⟩ := cz6 BK483) | ((with_reducible refine gate_callee (f := 85) rfl ?_); refine goA (some 18) Try.func85 (vernierref07_Round.calls k a1 t476 t477 t478 t479 t480 t481 t484 _ A6.out) ?_; intro w11 hb; replace BK483 := bkB (o := .cells #[.int .i64 t476, .bool t477, .int .i64 t478, .int .u64 t479, .int .u64 t480, .bool t481] 86 (0, 0)) BK483 hb; replace HB := hbS hb; clear hb))
 go_ret
 exact ⟨reT, hbT⟩
end Go.Proofs.Ytnlbfomlfhigcaa.Q
namespace Go.Proofs.Ytnlbfomlfhigcaa.Q
open Go.RowKit Go.Proofs.YtnlbfomlfhigcaaW.PrintWords Go.Proofs.YtnlbfomlfhigcaaW.PrintLast Go.Proofs.YtnlbfomlfhigcaaW.PrintMore
attribute [local go_sem] max2_int min2_int max_two min_two max_three min_three max_four min_four
set_option linter.unusedVariables false
set_option linter.unusedSimpArgs false
def vernierref14_Converts.f (k : Nat) (a0 : Int) (a1 : Int) (a2 : Int) : Option (Int × Int) := (vernierref05_Is.f a0).bind fun t539 => ((vernierref05_Is.f a1).bind fun t540 => (if t539 = true then (if t540 = true then ((vernierref14_Convert.f k a0 a1 a2).bind fun t541 => (some (t541, 0))) else (some (0, 2))) else (some (0, 2))))
set_option maxHeartbeats 8000000 in
set_option maxRecDepth 100000 in
theorem vernierref14_Converts.calls (k : Nat) (a0 : Int) (a1 : Int) (a2 : Int) (r1 : Int) (r2 : Int) (w : World) (h : vernierref14_Converts.f k a0 a1 a2 = some (r1, r2)) :
  Calls Try.prog 46 #[.int .i64 a0, .int .i64 a1, .int .u64 a2] w fun e w' => e = .returned (.tuple #[.int .u64 r1, .int .i64 r2]) ∧ Below w.heap.size w w' := by
 have HB := Aside0.mk (Below.refl w.heap.size w)
 have H := h
 clear h
 unfold vernierref14_Converts.f at H
 replace H := Option.bind_eq_some_iff.mp H
 obtain ⟨t539, A40, H⟩ := H
 try dsimp only at H
 have A4 := Aside0.mk A40
 clear A40
 replace H := Option.bind_eq_some_iff.mp H
 obtain ⟨t540, A50, H⟩ := H
 try dsimp only at H
 have A5 := Aside0.mk A50
 clear A50
 by_cases c6 : t539 = true
 ·subst c6
  rw [if_pos rfl] at H
  by_cases c7 : t540 = true
  ·subst c7
   rw [if_pos rfl] at H
   replace H := Option.bind_eq_some_iff.mp H
   obtain ⟨t541, A80, H⟩ := H
   try dsimp only at H
   have A8 := Aside0.mk A80
   clear A80
   simp only [Option.some.injEq, Prod.mk.injEq] at H
   obtain ⟨rfl, rfl⟩ := H
   go_enter Try.func46, Try.ntmps46
   go_wp2_with (first | ((with_reducible refine gate_callee (f := 48) rfl ?_); refine goesL_ (some 11) rfl rfl Try.func48 (by kernel_rfl) rfl #[.int .i64 a0] rfl (by (try simp only [List.map_toArray, List.map_cons, List.map_nil]); first | done | rfl | (simp only [List.length_drop, List.length_take]; rfl)) ?_; (with_reducible refine (vernierref05_Is.calls a0 true _ A4.out).mono ?_); rintro e w' ⟨rfl, ⟨nd, rfl⟩⟩; refine ⟨_, rfl, ?_⟩) | ((with_reducible refine gate_callee (f := 48) rfl ?_); refine goesL_ (some 13) rfl rfl Try.func48 (by kernel_rfl) rfl #[.int .i64 a1] rfl (by (try simp only [List.map_toArray, List.map_cons, List.map_nil]); first | done | rfl | (simp only [List.length_drop, List.length_take]; rfl)) ?_; (with_reducible refine (vernierref05_Is.calls a1 true _ A5.out).mono ?_); rintro e w' ⟨rfl, ⟨nd, rfl⟩⟩; refine ⟨_, rfl, ?_⟩) | ((with_reducible refine gate_callee (f := 37) rfl ?_); refine goA (some 23) Try.func37 (vernierref14_Convert.calls k a0 a1 a2 t541 _ A8.out) ?_; intro w9 hb; replace HB := hbS hb; clear hb))
   go_ret2
   exact ⟨reT, hbT⟩
  ·replace c7 := Bool.eq_false_iff.mpr c7
   subst c7
   rw [if_neg (show ¬ (false = true) by decide)] at H
   simp only [Option.some.injEq, Prod.mk.injEq] at H
   obtain ⟨rfl, rfl⟩ := H
   go_enter Try.func46, Try.ntmps46
   go_wp2_with (first | ((with_reducible refine gate_callee (f := 48) rfl ?_); refine goesL_ (some 11) rfl rfl Try.func48 (by kernel_rfl) rfl #[.int .i64 a0] rfl (by (try simp only [List.map_toArray, List.map_cons, List.map_nil]); first | done | rfl | (simp only [List.length_drop, List.length_take]; rfl)) ?_; (with_reducible refine (vernierref05_Is.calls a0 true _ A4.out).mono ?_); rintro e w' ⟨rfl, ⟨nd, rfl⟩⟩; refine ⟨_, rfl, ?_⟩) | ((with_reducible refine gate_callee (f := 48) rfl ?_); refine goesL_ (some 13) rfl rfl Try.func48 (by kernel_rfl) rfl #[.int .i64 a1] rfl (by (try simp only [List.map_toArray, List.map_cons, List.map_nil]); first | done | rfl | (simp only [List.length_drop, List.length_take]; rfl)) ?_; (with_reducible refine (vernierref05_Is.calls a1 false _ A5.out).mono ?_); rintro e w' ⟨rfl, ⟨nd, rfl⟩⟩; refine ⟨_, rfl, ?_⟩))
   go_ret2
   exact ⟨reT, hbT⟩
 ·replace c6 := Bool.eq_false_iff.mpr c6
  subst c6
  rw [if_neg (show ¬ (false = true) by decide)] at H
  simp only [Option.some.injEq, Prod.mk.injEq] at H
  obtain ⟨rfl, rfl⟩ := H
  go_enter Try.func46, Try.ntmps46
  go_wp2_with (first | ((with_reducible refine gate_callee (f := 48) rfl ?_); refine goesL_ (some 11) rfl rfl Try.func48 (by kernel_rfl) rfl #[.int .i64 a0] rfl (by (try simp only [List.map_toArray, List.map_cons, List.map_nil]); first | done | rfl | (simp only [List.length_drop, List.length_take]; rfl)) ?_; (with_reducible refine (vernierref05_Is.calls a0 false _ A4.out).mono ?_); rintro e w' ⟨rfl, ⟨nd, rfl⟩⟩; refine ⟨_, rfl, ?_⟩) | ((with_reducible refine gate_callee (f := 48) rfl ?_); refine goesL_ (some 13) rfl rfl Try.func48 (by kernel_rfl) rfl #[.int .i64 a1] rfl (by (try simp only [List.map_toArray, List.map_cons, List.map_nil]); first | done | rfl | (simp only [List.length_drop, List.length_take]; rfl)) ?_; (with_reducible refine (vernierref05_Is.calls a1 t540 _ A5.out).mono ?_); rintro e w' ⟨rfl, ⟨nd, rfl⟩⟩; refine ⟨_, rfl, ?_⟩))
  go_ret2
  exact ⟨reT, hbT⟩
end Go.Proofs.Ytnlbfomlfhigcaa.Q
namespace Go.Proofs.Ytnlbfomlfhigcaa.Q
open Go.RowKit Go.Proofs.YtnlbfomlfhigcaaW.PrintWords Go.Proofs.YtnlbfomlfhigcaaW.PrintLast Go.Proofs.YtnlbfomlfhigcaaW.PrintMore
attribute [local go_sem] max2_int min2_int max_two min_two max_three min_three max_four min_four
set_option linter.unusedVariables false
set_option linter.unusedSimpArgs false
attribute [local go_sem high] eqErr eqErrNil
def vernierlaw00_further.f (a0 : Option Int) : Option (Int) := if a0.isNone = true then (some (-1)) else (if (a0.getD 0) = 13 then (some 13) else (if (a0.getD 0) = 14 then (some 14) else (if (a0.getD 0) = 15 then (some 15) else (if (a0.getD 0) = 16 then (some 16) else (if (a0.getD 0) = 17 then (some 17) else (if (a0.getD 0) = 18 then (some 18) else (if (a0.getD 0) = 19 then (some 19) else (if (a0.getD 0) = 20 then (some 20) else (if (a0.getD 0) = 21 then (some 21) else (if (a0.getD 0) = 22 then (some 22) else (if (a0.getD 0) = 23 then (some 23) else (if (a0.getD 0) = 24 then (some 24) else (some (-1))))))))))))))
set_option maxHeartbeats 8000000 in
set_option maxRecDepth 100000 in
theorem vernierlaw00_further.calls (a0 : Option Int) (r : Int) (w : World) (h : vernierlaw00_further.f a0 = some r) :
  Calls Try.prog 88 #[errW a0] w fun e w' => e = .returned (.int .i64 r) ∧ Drawn0 w w' := by
 have hu43 := Try.underlying43
 have hu82 := Try.underlying82
 have H : (if a0.isNone = true then (some (-1)) else (if (a0.getD 0) = 13 then (some 13) else (if (a0.getD 0) = 14 then (some 14) else (if (a0.getD 0) = 15 then (some 15) else (if (a0.getD 0) = 16 then (some 16) else (if (a0.getD 0) = 17 then (some 17) else (if (a0.getD 0) = 18 then (some 18) else (if (a0.getD 0) = 19 then (some 19) else (if (a0.getD 0) = 20 then (some 20) else (if (a0.getD 0) = 21 then (some 21) else (if (a0.getD 0) = 22 then (some 22) else (if (a0.getD 0) = 23 then (some 23) else (if (a0.getD 0) = 24 then (some 24) else (some (-1))))))))))))))) = some r := h
 clear h
 rcases a0 with _ | q542
 ·have H1 : (some (-1)) = some r := by rw [if_pos (show (none : Option Int).isNone = true by rfl)] at H; exact H
  clear H
  have H := H1
  clear H1
  simp only [errW_none, errW_some]
  obtain rfl := Option.some.inj H
  go_enter Try.func88, Try.ntmps88
  go_wp2
  go_ret
  exact ⟨okT, by repeat (first | exact Drawn0.refl _ | apply Drawn0.step)⟩
 ·have H1 : (if q542 = 13 then (some 13) else (if q542 = 14 then (some 14) else (if q542 = 15 then (some 15) else (if q542 = 16 then (some 16) else (if q542 = 17 then (some 17) else (if q542 = 18 then (some 18) else (if q542 = 19 then (some 19) else (if q542 = 20 then (some 20) else (if q542 = 21 then (some 21) else (if q542 = 22 then (some 22) else (if q542 = 23 then (some 23) else (if q542 = 24 then (some 24) else (some (-1)))))))))))))) = some r := by rw [if_neg (show ¬ (some q542).isNone = true by simp)] at H; exact H
  clear H
  have H := H1
  clear H1
  simp only [errW_none, errW_some]
  by_cases c2 : q542 = 13
  ·rw [if_pos c2] at H
   obtain ⟨c2b0, c2b1⟩ := eqY c2
   clear c2
   obtain rfl := Option.some.inj H
   go_enter Try.func88, Try.ntmps88
   go_wp2
   go_ret
   exact ⟨okT, by repeat (first | exact Drawn0.refl _ | apply Drawn0.step)⟩
  ·rw [if_neg c2] at H
   obtain ⟨c2b0, c2b1⟩ := eqN c2
   by_cases c3 : q542 = 14
   ·rw [if_pos c3] at H
    obtain ⟨c3b0, c3b1⟩ := eqY c3
    clear c3
    obtain rfl := Option.some.inj H
    go_enter Try.func88, Try.ntmps88
    go_wp2
    go_ret
    exact ⟨okT, by repeat (first | exact Drawn0.refl _ | apply Drawn0.step)⟩
   ·rw [if_neg c3] at H
    obtain ⟨c3b0, c3b1⟩ := eqN c3
    by_cases c4 : q542 = 15
    ·rw [if_pos c4] at H
     obtain ⟨c4b0, c4b1⟩ := eqY c4
     clear c4
     obtain rfl := Option.some.inj H
     go_enter Try.func88, Try.ntmps88
     go_wp2
     go_ret
     exact ⟨okT, by repeat (first | exact Drawn0.refl _ | apply Drawn0.step)⟩
    ·rw [if_neg c4] at H
     obtain ⟨c4b0, c4b1⟩ := eqN c4
     by_cases c5 : q542 = 16
     ·rw [if_pos c5] at H
      obtain ⟨c5b0, c5b1⟩ := eqY c5
      clear c5
      obtain rfl := Option.some.inj H
      go_enter Try.func88, Try.ntmps88
      go_wp2
      go_ret
      exact ⟨okT, by repeat (first | exact Drawn0.refl _ | apply Drawn0.step)⟩
     ·rw [if_neg c5] at H
      obtain ⟨c5b0, c5b1⟩ := eqN c5
      by_cases c6 : q542 = 17
      ·rw [if_pos c6] at H
       obtain ⟨c6b0, c6b1⟩ := eqY c6
       clear c6
       obtain rfl := Option.some.inj H
       go_enter Try.func88, Try.ntmps88
       go_wp2
       go_ret
       exact ⟨okT, by repeat (first | exact Drawn0.refl _ | apply Drawn0.step)⟩
      ·rw [if_neg c6] at H
       obtain ⟨c6b0, c6b1⟩ := eqN c6
       by_cases c7 : q542 = 18
       ·rw [if_pos c7] at H
        obtain ⟨c7b0, c7b1⟩ := eqY c7
        clear c7
        obtain rfl := Option.some.inj H
        go_enter Try.func88, Try.ntmps88
        go_wp2
        go_ret
        exact ⟨okT, by repeat (first | exact Drawn0.refl _ | apply Drawn0.step)⟩
       ·rw [if_neg c7] at H
        obtain ⟨c7b0, c7b1⟩ := eqN c7
        by_cases c8 : q542 = 19
        ·rw [if_pos c8] at H
         obtain ⟨c8b0, c8b1⟩ := eqY c8
         clear c8
         obtain rfl := Option.some.inj H
         go_enter Try.func88, Try.ntmps88
         go_wp2
         go_ret
         exact ⟨okT, by repeat (first | exact Drawn0.refl _ | apply Drawn0.step)⟩
        ·rw [if_neg c8] at H
         obtain ⟨c8b0, c8b1⟩ := eqN c8
         by_cases c9 : q542 = 20
         ·rw [if_pos c9] at H
          obtain ⟨c9b0, c9b1⟩ := eqY c9
          clear c9
          obtain rfl := Option.some.inj H
          go_enter Try.func88, Try.ntmps88
          go_wp2
          go_ret
          exact ⟨okT, by repeat (first | exact Drawn0.refl _ | apply Drawn0.step)⟩
         ·rw [if_neg c9] at H
          obtain ⟨c9b0, c9b1⟩ := eqN c9
          by_cases c10 : q542 = 21
          ·rw [if_pos c10] at H
           obtain ⟨c10b0, c10b1⟩ := eqY c10
           clear c10
           obtain rfl := Option.some.inj H
           go_enter Try.func88, Try.ntmps88
           go_wp2
           go_ret
           exact ⟨okT, by repeat (first | exact Drawn0.refl _ | apply Drawn0.step)⟩
          ·rw [if_neg c10] at H
           obtain ⟨c10b0, c10b1⟩ := eqN c10
           by_cases c11 : q542 = 22
           ·rw [if_pos c11] at H
            obtain ⟨c11b0, c11b1⟩ := eqY c11
            clear c11
            obtain rfl := Option.some.inj H
            go_enter Try.func88, Try.ntmps88
            go_wp2
            go_ret
            exact ⟨okT, by repeat (first | exact Drawn0.refl _ | apply Drawn0.step)⟩
           ·rw [if_neg c11] at H
            obtain ⟨c11b0, c11b1⟩ := eqN c11
            by_cases c12 : q542 = 23
            ·rw [if_pos c12] at H
             obtain ⟨c12b0, c12b1⟩ := eqY c12
             clear c12
             obtain rfl := Option.some.inj H
             go_enter Try.func88, Try.ntmps88
             go_wp2
             go_ret
             exact ⟨okT, by repeat (first | exact Drawn0.refl _ | apply Drawn0.step)⟩
            ·rw [if_neg c12] at H
             obtain ⟨c12b0, c12b1⟩ := eqN c12
             by_cases c13 : q542 = 24
             ·rw [if_pos c13] at H
              obtain ⟨c13b0, c13b1⟩ := eqY c13
              clear c13
              obtain rfl := Option.some.inj H
              go_enter Try.func88, Try.ntmps88
              go_wp2
              go_ret
              exact ⟨okT, by repeat (first | exact Drawn0.refl _ | apply Drawn0.step)⟩
             ·rw [if_neg c13] at H
              obtain ⟨c13b0, c13b1⟩ := eqN c13
              obtain rfl := Option.some.inj H
              go_enter Try.func88, Try.ntmps88
              go_wp2
              go_ret
              exact ⟨okT, by repeat (first | exact Drawn0.refl _ | apply Drawn0.step)⟩
end Go.Proofs.Ytnlbfomlfhigcaa.Q
namespace Go.Proofs.Ytnlbfomlfhigcaa.Q
open Go.RowKit Go.Proofs.YtnlbfomlfhigcaaW.PrintWords Go.Proofs.YtnlbfomlfhigcaaW.PrintLast Go.Proofs.YtnlbfomlfhigcaaW.PrintMore
attribute [local go_sem] max2_int min2_int max_two min_two max_three min_three max_four min_four
set_option linter.unusedVariables false
set_option linter.unusedSimpArgs false
attribute [local go_sem high] eqErr eqErrNil
def vernierlaw00_Code.f (a0 : Option Int) : Option (Int) := if a0.isNone = true then (some 0) else (if (a0.getD 0) = 1 then (some 1) else (if (a0.getD 0) = 2 then (some 2) else (if (a0.getD 0) = 3 then (some 3) else (if (a0.getD 0) = 4 then (some 4) else (if (a0.getD 0) = 5 then (some 5) else (if (a0.getD 0) = 6 then (some 6) else (if (a0.getD 0) = 7 then (some 7) else (if (a0.getD 0) = 8 then (some 8) else (if (a0.getD 0) = 9 then (some 9) else (if (a0.getD 0) = 10 then (some 10) else (if (a0.getD 0) = 11 then (some 11) else (if (a0.getD 0) = 12 then (some 12) else ((vernierlaw00_further.f (some (a0.getD 0))).bind fun t544 => (some t544))))))))))))))
set_option maxHeartbeats 8000000 in
set_option maxRecDepth 100000 in
theorem vernierlaw00_Code.calls (a0 : Option Int) (r : Int) (w : World) (h : vernierlaw00_Code.f a0 = some r) :
  Calls Try.prog 47 #[errW a0] w fun e w' => e = .returned (.int .i64 r) ∧ Drawn0 w w' := by
 have hu43 := Try.underlying43
 have hu82 := Try.underlying82
 have H : (if a0.isNone = true then (some 0) else (if (a0.getD 0) = 1 then (some 1) else (if (a0.getD 0) = 2 then (some 2) else (if (a0.getD 0) = 3 then (some 3) else (if (a0.getD 0) = 4 then (some 4) else (if (a0.getD 0) = 5 then (some 5) else (if (a0.getD 0) = 6 then (some 6) else (if (a0.getD 0) = 7 then (some 7) else (if (a0.getD 0) = 8 then (some 8) else (if (a0.getD 0) = 9 then (some 9) else (if (a0.getD 0) = 10 then (some 10) else (if (a0.getD 0) = 11 then (some 11) else (if (a0.getD 0) = 12 then (some 12) else ((vernierlaw00_further.f (some (a0.getD 0))).bind fun t544 => (some t544))))))))))))))) = some r := h
 clear h
 rcases a0 with _ | q543
 ·have H1 : (some 0) = some r := by rw [if_pos (show (none : Option Int).isNone = true by rfl)] at H; exact H
  clear H
  have H := H1
  clear H1
  simp only [errW_none, errW_some]
  obtain rfl := Option.some.inj H
  go_enter Try.func47, Try.ntmps47
  go_wp2
  go_ret
  exact ⟨okT, by repeat (first | exact Drawn0.refl _ | apply Drawn0.step)⟩
 ·have H1 : (if q543 = 1 then (some 1) else (if q543 = 2 then (some 2) else (if q543 = 3 then (some 3) else (if q543 = 4 then (some 4) else (if q543 = 5 then (some 5) else (if q543 = 6 then (some 6) else (if q543 = 7 then (some 7) else (if q543 = 8 then (some 8) else (if q543 = 9 then (some 9) else (if q543 = 10 then (some 10) else (if q543 = 11 then (some 11) else (if q543 = 12 then (some 12) else ((vernierlaw00_further.f (some q543)).bind fun t544 => (some t544)))))))))))))) = some r := by rw [if_neg (show ¬ (some q543).isNone = true by simp)] at H; exact H
  clear H
  have H := H1
  clear H1
  simp only [errW_none, errW_some]
  by_cases c2 : q543 = 1
  ·rw [if_pos c2] at H
   obtain ⟨c2b0, c2b1⟩ := eqY c2
   clear c2
   obtain rfl := Option.some.inj H
   go_enter Try.func47, Try.ntmps47
   go_wp2
   go_ret
   exact ⟨okT, by repeat (first | exact Drawn0.refl _ | apply Drawn0.step)⟩
  ·rw [if_neg c2] at H
   obtain ⟨c2b0, c2b1⟩ := eqN c2
   by_cases c3 : q543 = 2
   ·rw [if_pos c3] at H
    obtain ⟨c3b0, c3b1⟩ := eqY c3
    clear c3
    obtain rfl := Option.some.inj H
    go_enter Try.func47, Try.ntmps47
    go_wp2
    go_ret
    exact ⟨okT, by repeat (first | exact Drawn0.refl _ | apply Drawn0.step)⟩
   ·rw [if_neg c3] at H
    obtain ⟨c3b0, c3b1⟩ := eqN c3
    by_cases c4 : q543 = 3
    ·rw [if_pos c4] at H
     obtain ⟨c4b0, c4b1⟩ := eqY c4
     clear c4
     obtain rfl := Option.some.inj H
     go_enter Try.func47, Try.ntmps47
     go_wp2
     go_ret
     exact ⟨okT, by repeat (first | exact Drawn0.refl _ | apply Drawn0.step)⟩
    ·rw [if_neg c4] at H
     obtain ⟨c4b0, c4b1⟩ := eqN c4
     by_cases c5 : q543 = 4
     ·rw [if_pos c5] at H
      obtain ⟨c5b0, c5b1⟩ := eqY c5
      clear c5
      obtain rfl := Option.some.inj H
      go_enter Try.func47, Try.ntmps47
      go_wp2
      go_ret
      exact ⟨okT, by repeat (first | exact Drawn0.refl _ | apply Drawn0.step)⟩
     ·rw [if_neg c5] at H
      obtain ⟨c5b0, c5b1⟩ := eqN c5
      by_cases c6 : q543 = 5
      ·rw [if_pos c6] at H
       obtain ⟨c6b0, c6b1⟩ := eqY c6
       clear c6
       obtain rfl := Option.some.inj H
       go_enter Try.func47, Try.ntmps47
       go_wp2
       go_ret
       exact ⟨okT, by repeat (first | exact Drawn0.refl _ | apply Drawn0.step)⟩
      ·rw [if_neg c6] at H
       obtain ⟨c6b0, c6b1⟩ := eqN c6
       by_cases c7 : q543 = 6
       ·rw [if_pos c7] at H
        obtain ⟨c7b0, c7b1⟩ := eqY c7
        clear c7
        obtain rfl := Option.some.inj H
        go_enter Try.func47, Try.ntmps47
        go_wp2
        go_ret
        exact ⟨okT, by repeat (first | exact Drawn0.refl _ | apply Drawn0.step)⟩
       ·rw [if_neg c7] at H
        obtain ⟨c7b0, c7b1⟩ := eqN c7
        by_cases c8 : q543 = 7
        ·rw [if_pos c8] at H
         obtain ⟨c8b0, c8b1⟩ := eqY c8
         clear c8
         obtain rfl := Option.some.inj H
         go_enter Try.func47, Try.ntmps47
         go_wp2
         go_ret
         exact ⟨okT, by repeat (first | exact Drawn0.refl _ | apply Drawn0.step)⟩
        ·rw [if_neg c8] at H
         obtain ⟨c8b0, c8b1⟩ := eqN c8
         by_cases c9 : q543 = 8
         ·rw [if_pos c9] at H
          obtain ⟨c9b0, c9b1⟩ := eqY c9
          clear c9
          obtain rfl := Option.some.inj H
          go_enter Try.func47, Try.ntmps47
          go_wp2
          go_ret
          exact ⟨okT, by repeat (first | exact Drawn0.refl _ | apply Drawn0.step)⟩
         ·rw [if_neg c9] at H
          obtain ⟨c9b0, c9b1⟩ := eqN c9
          by_cases c10 : q543 = 9
          ·rw [if_pos c10] at H
           obtain ⟨c10b0, c10b1⟩ := eqY c10
           clear c10
           obtain rfl := Option.some.inj H
           go_enter Try.func47, Try.ntmps47
           go_wp2
           go_ret
           exact ⟨okT, by repeat (first | exact Drawn0.refl _ | apply Drawn0.step)⟩
          ·rw [if_neg c10] at H
           obtain ⟨c10b0, c10b1⟩ := eqN c10
           by_cases c11 : q543 = 10
           ·rw [if_pos c11] at H
            obtain ⟨c11b0, c11b1⟩ := eqY c11
            clear c11
            obtain rfl := Option.some.inj H
            go_enter Try.func47, Try.ntmps47
            go_wp2
            go_ret
            exact ⟨okT, by repeat (first | exact Drawn0.refl _ | apply Drawn0.step)⟩
           ·rw [if_neg c11] at H
            obtain ⟨c11b0, c11b1⟩ := eqN c11
            by_cases c12 : q543 = 11
            ·rw [if_pos c12] at H
             obtain ⟨c12b0, c12b1⟩ := eqY c12
             clear c12
             obtain rfl := Option.some.inj H
             go_enter Try.func47, Try.ntmps47
             go_wp2
             go_ret
             exact ⟨okT, by repeat (first | exact Drawn0.refl _ | apply Drawn0.step)⟩
            ·rw [if_neg c12] at H
             obtain ⟨c12b0, c12b1⟩ := eqN c12
             by_cases c13 : q543 = 12
             ·rw [if_pos c13] at H
              obtain ⟨c13b0, c13b1⟩ := eqY c13
              clear c13
              obtain rfl := Option.some.inj H
              go_enter Try.func47, Try.ntmps47
              go_wp2
              go_ret
              exact ⟨okT, by repeat (first | exact Drawn0.refl _ | apply Drawn0.step)⟩
             ·rw [if_neg c13] at H
              obtain ⟨c13b0, c13b1⟩ := eqN c13
              replace H := Option.bind_eq_some_iff.mp H
              obtain ⟨t544, A140, H⟩ := H
              replace H : (some t544) = some r := H
              have A14 := Aside0.mk A140
              clear A140
              obtain rfl := Option.some.inj H
              have CA14 := fun W => vernierlaw00_further.calls (some q543) t544 W A14.out
              try simp only [errW_none, errW_some] at CA14
              go_enter Try.func47, Try.ntmps47
              go_wp2_with (first | (go_at_call 88; (with_reducible refine (CA14 _).mono ?_); rintro e w' ⟨rfl, ⟨nd, rfl⟩⟩))
              go_ret
              exact ⟨okT, by repeat (first | exact Drawn0.refl _ | apply Drawn0.step)⟩
end Go.Proofs.Ytnlbfomlfhigcaa.Q
namespace Go.Proofs.Ytnlbfomlfhigcaa.Q
open Go.RowKit Go.Proofs.YtnlbfomlfhigcaaW.PrintWords Go.Proofs.YtnlbfomlfhigcaaW.PrintLast Go.Proofs.YtnlbfomlfhigcaaW.PrintMore
attribute [local go_sem] max2_int min2_int max_two min_two max_three min_three max_four min_four
set_option linter.unusedVariables false
set_option linter.unusedSimpArgs false
def vernierlaw14_GenConverts.f (k : Nat) (a0 : Int) (a1 : Int) (a2 : Int) : Option (Bool) := (vernierlaw14_up.f k).bind fun t545 => ((gen_Convert.f k a0 a1 a2).bind fun bt546 => ((vernierref14_Converts.f k a0 a1 a2).bind fun bt548 => (if t545 = true then (if bt546.1 = bt548.1 then ((vernierlaw00_Code.f bt546.2).bind fun t550 => (some (t550 == bt548.2))) else (some false)) else (some false))))
set_option maxHeartbeats 8000000 in
set_option maxRecDepth 100000 in
theorem vernierlaw14_GenConverts.calls (k : Nat) (a0 : Int) (a1 : Int) (a2 : Int) (r : Bool) (w : World) (h : vernierlaw14_GenConverts.f k a0 a1 a2 = some r) :
  Calls Try.prog 6 #[.int .i64 a0, .int .i64 a1, .int .u64 a2] w fun e w' => e = .returned (.bool r) ∧ Below w.heap.size w w' := by
 have HB := Aside0.mk (Below.refl w.heap.size w)
 have H := h
 clear h
 unfold vernierlaw14_GenConverts.f at H
 replace H := Option.bind_eq_some_iff.mp H
 obtain ⟨t545, A40, H⟩ := H
 try dsimp only at H
 have A4 := Aside0.mk A40
 clear A40
 replace H := Option.bind_eq_some_iff.mp H
 obtain ⟨⟨t546, t547⟩, A50, H⟩ := H
 try dsimp only at H
 have A5 := Aside0.mk A50
 clear A50
 replace H := Option.bind_eq_some_iff.mp H
 obtain ⟨⟨t548, t549⟩, A60, H⟩ := H
 try dsimp only at H
 have A6 := Aside0.mk A60
 clear A60
 by_cases c7 : t545 = true
 ·subst c7
  rw [if_pos rfl] at H
  by_cases c8 : t546 = t548
  ·rw [if_pos c8] at H
   obtain ⟨c8b0, c8b1⟩ := eqY c8
   clear c8
   replace H := Option.bind_eq_some_iff.mp H
   obtain ⟨t550, A90, H⟩ := H
   try dsimp only at H
   have A9 := Aside0.mk A90
   clear A90
   obtain rfl := Option.some.inj H
   go_enter Try.func6, Try.ntmps6
   go_wp2_with (first | ((with_reducible refine gate_callee (f := 35) rfl ?_); refine goA (some 12) Try.func35 (vernierlaw14_up.calls k  true _ A4.out) ?_; intro w10 hb; replace HB := hbS hb; clear hb) | ((with_reducible refine gate_callee (f := 45) rfl ?_); refine goA (some 17) Try.func45 (gen_Convert.calls k a0 a1 a2 t546 t547 _ A5.out) ?_; intro w11 hb; replace HB := hbS hb; clear hb; (try simp only [errW_none, errW_some])) | ((with_reducible refine gate_callee (f := 46) rfl ?_); refine goA (some 24) Try.func46 (vernierref14_Converts.calls k a0 a1 a2 t548 t549 _ A6.out) ?_; intro w12 hb; replace HB := hbS hb; clear hb; have CA9 := fun W => vernierlaw00_Code.calls t547 t550 W A9.out; try simp only [errW_none, errW_some] at CA9) | (go_at_call 47; (with_reducible refine (CA9 _).mono ?_); rintro e w' ⟨rfl, ⟨nd, rfl⟩⟩))
   go_ret
   exact ⟨reT, hbT⟩
  ·rw [if_neg c8] at H
   obtain ⟨c8b0, c8b1⟩ := eqN c8
   obtain rfl := Option.some.inj H
   go_enter Try.func6, Try.ntmps6
   go_wp2_with (first | ((with_reducible refine gate_callee (f := 35) rfl ?_); refine goA (some 12) Try.func35 (vernierlaw14_up.calls k  true _ A4.out) ?_; intro w13 hb; replace HB := hbS hb; clear hb) | ((with_reducible refine gate_callee (f := 45) rfl ?_); refine goA (some 17) Try.func45 (gen_Convert.calls k a0 a1 a2 t546 t547 _ A5.out) ?_; intro w14 hb; replace HB := hbS hb; clear hb; (try simp only [errW_none, errW_some])) | ((with_reducible refine gate_callee (f := 46) rfl ?_); refine goA (some 24) Try.func46 (vernierref14_Converts.calls k a0 a1 a2 t548 t549 _ A6.out) ?_; intro w15 hb; replace HB := hbS hb; clear hb))
   go_ret
   exact ⟨reT, hbT⟩
 ·replace c7 := Bool.eq_false_iff.mpr c7
  subst c7
  rw [if_neg (show ¬ (false = true) by decide)] at H
  obtain rfl := Option.some.inj H
  go_enter Try.func6, Try.ntmps6
  go_wp2_with (first | ((with_reducible refine gate_callee (f := 35) rfl ?_); refine goA (some 12) Try.func35 (vernierlaw14_up.calls k  false _ A4.out) ?_; intro w16 hb; replace HB := hbS hb; clear hb) | ((with_reducible refine gate_callee (f := 45) rfl ?_); refine goA (some 17) Try.func45 (gen_Convert.calls k a0 a1 a2 t546 t547 _ A5.out) ?_; intro w17 hb; replace HB := hbS hb; clear hb; (try simp only [errW_none, errW_some])) | ((with_reducible refine gate_callee (f := 46) rfl ?_); refine goA (some 24) Try.func46 (vernierref14_Converts.calls k a0 a1 a2 t548 t549 _ A6.out) ?_; intro w18 hb; replace HB := hbS hb; clear hb))
  go_ret
  exact ⟨reT, hbT⟩
def vernierlaw14_GenConverts.Pure : Prop := ∀ (a0 : Int) (a1 : Int) (a2 : Int), (Lit.int .i64 a0).wf = true → (Lit.int .i64 a1).wf = true → (Lit.int .u64 a2).wf = true → ∃ k, vernierlaw14_GenConverts.f k a0 a1 a2 = some true
theorem vernierlaw14_GenConverts.walk (P : vernierlaw14_GenConverts.Pure) (a0 : Int) (a1 : Int) (a2 : Int) (w : World) (w0 : (Lit.int .i64 a0).wf = true) (w1 : (Lit.int .i64 a1).wf = true) (w2 : (Lit.int .u64 a2).wf = true) :
  Calls Try.prog 6 #[.int .i64 a0, .int .i64 a1, .int .u64 a2] w fun e w' => e = .returned (.bool true) ∧ Below w.heap.size w w' := by
 obtain ⟨k, h⟩ := P a0 a1 a2 w0 w1 w2
 refine (vernierlaw14_GenConverts.calls k a0 a1 a2 true w h).mono ?_
 rintro e w' ⟨rfl, hd⟩
 exact ⟨rfl, hd⟩
end Go.Proofs.Ytnlbfomlfhigcaa.Q
namespace Go.Proofs.Ytnlbfomlfhigcaa.M
def tl (s : Int) (F : Nat) : Nat := (s % 4).toNat * 2 ^ 127 + (F - 2 ^ 127)
def str (s : Int) (F : Nat) : Nat :=
  if 0 ≤ s / 4 then 2 ^ 200 - 2 ^ 130 * 2 ^ (69 - (s / 4).toNat) + tl s F * 2 ^ (69 - (s / 4).toNat)
  else 2 ^ 129 * 2 ^ (70 - (-(s / 4)).toNat) + tl s F * 2 ^ (70 - (-(s / 4)).toNat)
theorem tl_lt {s : Int} {F : Nat} (hF : F < 2 ^ 128) : tl s F < 2 ^ 129 := by
  unfold tl
  have h1 : (s % 4).toNat ≤ 3 := by omega
  omega
theorem str_pos {s : Int} {F k : Nat} (h : s / 4 = (k : Int)) : str s F = 2 ^ 200 - 2 ^ 130 * 2 ^ (69 - k) + tl s F * 2 ^ (69 - k) := by
  unfold str
  rw [if_pos (by omega), h]
  rfl
theorem str_neg {s : Int} {F r : Nat} (h : s / 4 = -(r : Int)) (hr : 1 ≤ r) : str s F = 2 ^ 129 * 2 ^ (70 - r) + tl s F * 2 ^ (70 - r) := by
  unfold str
  rw [if_neg (by omega), h, show (-(-(r : Int))).toNat = r by omega]
theorem pow_le {a b : Nat} (h : a ≤ b) : 2 ^ a ≤ 2 ^ b := Nat.pow_le_pow_right (by omega) h
theorem pow_dbl {a b : Nat} (h : a + 1 ≤ b) : 2 * 2 ^ a ≤ 2 ^ b := by
  have := pow_le h
  rw [Nat.pow_succ] at this
  omega
theorem pow_pos (a : Nat) : 1 ≤ 2 ^ a := Nat.one_le_two_pow
theorem pos_room {k : Nat} (h : k ≤ 69) : 2 ^ 130 * 2 ^ (69 - k) ≤ 2 ^ 199 := by
  have := pow_le (show 69 - k ≤ 69 by omega)
  calc 2 ^ 130 * 2 ^ (69 - k) ≤ 2 ^ 130 * 2 ^ 69 := Nat.mul_le_mul_left _ this
    _ = 2 ^ 199 := by rw [← Nat.pow_add]
theorem str_pos_bd {s : Int} {F k : Nat} (h : s / 4 = (k : Int)) (hk : k ≤ 69) (hF : F < 2 ^ 128) :
    2 ^ 200 - 2 ^ 130 * 2 ^ (69 - k) ≤ str s F ∧ str s F < 2 ^ 200 - 2 ^ 129 * 2 ^ (69 - k) ∧ 2 ^ 199 ≤ str s F := by
  rw [str_pos h]
  have h1 := pos_room hk
  have h2 := tl_lt (s := s) hF
  have h3 := pow_pos (69 - k)
  generalize 2 ^ (69 - k) = a at *
  have h4 : tl s F * a + a ≤ 2 ^ 129 * a := by
    have := Nat.mul_le_mul_right a (show tl s F + 1 ≤ 2 ^ 129 by omega)
    rw [Nat.add_mul] at this
    omega
  generalize tl s F * a = b at *
  have h5 : 2 ^ 130 * a = 2 * (2 ^ 129 * a) := by rw [← Nat.mul_assoc, ← Nat.pow_succ']
  omega
theorem str_neg_bd {s : Int} {F r : Nat} (h : s / 4 = -(r : Int)) (hr : 1 ≤ r) (hr2 : r ≤ 70) (hF : F < 2 ^ 128) :
    2 ^ 129 * 2 ^ (70 - r) ≤ str s F ∧ str s F < 2 ^ 130 * 2 ^ (70 - r) ∧ str s F < 2 ^ 199 := by
  rw [str_neg h hr]
  have h2 := tl_lt (s := s) hF
  have h3 := pow_pos (70 - r)
  have h6 : 2 ^ 130 * 2 ^ (70 - r) ≤ 2 ^ 199 := by
    calc 2 ^ 130 * 2 ^ (70 - r) ≤ 2 ^ 130 * 2 ^ 69 := Nat.mul_le_mul_left _ (pow_le (by omega))
      _ = 2 ^ 199 := by rw [← Nat.pow_add]
  generalize 2 ^ (70 - r) = a at *
  have h4 : tl s F * a + a ≤ 2 ^ 129 * a := by
    have := Nat.mul_le_mul_right a (show tl s F + 1 ≤ 2 ^ 129 by omega)
    rw [Nat.add_mul] at this
    omega
  generalize tl s F * a = b at *
  have h5 : 2 ^ 130 * a = 2 * (2 ^ 129 * a) := by rw [← Nat.mul_assoc, ← Nat.pow_succ']
  omega
theorem tl_mono {s s' : Int} {F F' : Nat} (hk : s / 4 = s' / 4) (hF : 2 ^ 127 ≤ F) (hF2 : F < 2 ^ 128) (hG : 2 ^ 127 ≤ F') (h : s < s' ∨ (s = s' ∧ F < F')) : tl s F < tl s' F' := by
  unfold tl
  rcases h with h | ⟨rfl, h⟩
  · have h1 : (s % 4).toNat + 1 ≤ (s' % 4).toNat := by omega
    omega
  · omega
theorem str_lt {s s' : Int} {F F' : Nat} (hs : -270 ≤ s) (hs2 : s ≤ 270) (ht : -270 ≤ s') (ht2 : s' ≤ 270) (hF : 2 ^ 127 ≤ F) (hF2 : F < 2 ^ 128) (hG : 2 ^ 127 ≤ F') (hG2 : F' < 2 ^ 128)
    (h : s < s' ∨ (s = s' ∧ F < F')) : str s F < str s' F' := by
  have hk : s / 4 ≤ s' / 4 := by omega
  by_cases h0 : 0 ≤ s / 4
  · obtain ⟨k, hk0⟩ := Int.eq_ofNat_of_zero_le h0
    obtain ⟨k', hk1⟩ := Int.eq_ofNat_of_zero_le (show 0 ≤ s' / 4 by omega)
    by_cases e : k = k'
    · subst e
      have := tl_mono (by omega) hF hF2 hG h
      rw [str_pos hk0, str_pos hk1]
      have h1 := pos_room (show k ≤ 69 by omega)
      have h2 : tl s F * 2 ^ (69 - k) < tl s' F' * 2 ^ (69 - k) := Nat.mul_lt_mul_of_pos_right this (pow_pos _)
      omega
    · have h1 := str_pos_bd hk0 (by omega) hF2
      have h2 := str_pos_bd hk1 (by omega) hG2
      have h3 := pow_dbl (show (69 - k') + 1 ≤ 69 - k by omega)
      have h4 := pos_room (show k ≤ 69 by omega)
      have h5 := pos_room (show k' ≤ 69 by omega)
      generalize 2 ^ (69 - k) = a at *
      generalize 2 ^ (69 - k') = b at *
      have h6 : 2 ^ 130 * b = 2 ^ 129 * (2 * b) := by rw [← Nat.mul_assoc, ← Nat.pow_succ]
      have h7 : 2 ^ 129 * (2 * b) ≤ 2 ^ 129 * a := Nat.mul_le_mul_left _ h3
      omega
  · obtain ⟨r, hr0⟩ : ∃ r : Nat, s / 4 = -(r : Int) := ⟨(-(s / 4)).toNat, by omega⟩
    have g1 := str_neg_bd hr0 (by omega) (by omega) hF2
    by_cases h1 : 0 ≤ s' / 4
    · obtain ⟨k', hk1⟩ := Int.eq_ofNat_of_zero_le h1
      have h2 := str_pos_bd hk1 (by omega) hG2
      omega
    · obtain ⟨r', hr1⟩ : ∃ r : Nat, s' / 4 = -(r : Int) := ⟨(-(s' / 4)).toNat, by omega⟩
      by_cases e : r = r'
      · subst e
        have := tl_mono (by omega) hF hF2 hG h
        rw [str_neg hr0 (by omega), str_neg hr1 (by omega)]
        have h2 : tl s F * 2 ^ (70 - r) < tl s' F' * 2 ^ (70 - r) := Nat.mul_lt_mul_of_pos_right this (pow_pos _)
        omega
      · have g2 := str_neg_bd hr1 (by omega) (by omega) hG2
        have h3 := pow_dbl (show (70 - r) + 1 ≤ 70 - r' by omega)
        generalize 2 ^ (70 - r) = a at *
        generalize 2 ^ (70 - r') = b at *
        have h6 : 2 ^ 130 * a = 2 ^ 129 * (2 * a) := by rw [← Nat.mul_assoc, ← Nat.pow_succ]
        have h7 : 2 ^ 129 * (2 * a) ≤ 2 ^ 129 * b := Nat.mul_le_mul_left _ h3
        omega
theorem str_inj {s s' : Int} {F F' : Nat} (hs : -270 ≤ s) (hs2 : s ≤ 270) (ht : -270 ≤ s') (ht2 : s' ≤ 270) (hF : 2 ^ 127 ≤ F) (hF2 : F < 2 ^ 128) (hG : 2 ^ 127 ≤ F') (hG2 : F' < 2 ^ 128)
    (h : str s F = str s' F') : s = s' ∧ F = F' := by
  rcases Int.lt_trichotomy s s' with a | a | a
  · have := str_lt hs hs2 ht ht2 hF hF2 hG hG2 (.inl a); omega
  · rcases Nat.lt_trichotomy F F' with b | b | b
    · have := str_lt hs hs2 ht ht2 hF hF2 hG hG2 (.inr ⟨a, b⟩); omega
    · exact ⟨a, b⟩
    · have := str_lt ht ht2 hs hs2 hG hG2 hF hF2 (.inr ⟨a.symm, b⟩); omega
  · have := str_lt ht ht2 hs hs2 hG hG2 hF hF2 (.inl a); omega
def rnd (D V : Nat) : Nat := if D < 2 * (V % D) ∨ (D = 2 * (V % D) ∧ V / D % 2 = 1) then V / D + 1 else V / D
theorem rnd_bd (D V : Nat) : V / D ≤ rnd D V ∧ rnd D V ≤ V / D + 1 := by
  unfold rnd
  split <;> omega
theorem rnd_mul {D q : Nat} (hD : 0 < D) : rnd D (q * D) = q := by
  unfold rnd
  rw [Nat.mul_mod_left, Nat.mul_div_cancel _ hD, if_neg (by omega)]
def rpos (n : Nat) (s : Int) (F : Nat) (b : Bool) : Nat :=
  if 4 * (n : Int) - 8 ≤ s then 2 ^ (n - 1) - 1 else if s < 8 - 4 * (n : Int) then 1 else rnd (2 ^ (202 - n)) (2 * str s F + b.toNat)
theorem toNat_le (b : Bool) : b.toNat ≤ 1 := by cases b <;> decide
def Wd (n : Nat) : Prop := n = 8 ∨ n = 16 ∨ n = 32 ∨ n = 64
theorem Wd.bd {n : Nat} (h : Wd n) : 8 ≤ n ∧ n ≤ 64 := by unfold Wd at h; omega
theorem unit_eq {n : Nat} (h : Wd n) : 2 ^ (n - 1) * 2 ^ (201 - n) = 2 ^ 200 ∧ 2 ^ (202 - n) = 2 * 2 ^ (201 - n) := by
  have := h.bd
  constructor
  · rw [← Nat.pow_add]; congr 1; omega
  · rw [← Nat.pow_succ']; congr 1; omega
theorem rnd_in {n : Nat} (hn : Wd n) {s : Int} {F : Nat} (b : Bool) (h1 : 8 - 4 * (n : Int) ≤ s) (h2 : s < 4 * (n : Int) - 8) (hF2 : F < 2 ^ 128) :
    1 ≤ rnd (2 ^ (202 - n)) (2 * str s F + b.toNat) ∧ rnd (2 ^ (202 - n)) (2 * str s F + b.toNat) ≤ 2 ^ (n - 1) - 1 := by
  have hb := hn.bd
  have hbb := toNat_le b
  obtain ⟨u1, u2⟩ := unit_eq hn
  have r := rnd_bd (2 ^ (202 - n)) (2 * str s F + b.toNat)
  have up : str s F < 2 ^ 200 - 2 ^ (201 - n) := by
    by_cases h0 : 0 ≤ s / 4
    · obtain ⟨k, hk⟩ := Int.eq_ofNat_of_zero_le h0
      have := (str_pos_bd hk (by omega) hF2).2.1
      have e : 2 ^ (201 - n) ≤ 2 ^ 129 * 2 ^ (69 - k) := by rw [← Nat.pow_add]; exact pow_le (by omega)
      have := pos_room (show k ≤ 69 by omega)
      omega
    · obtain ⟨r, hr⟩ : ∃ r : Nat, s / 4 = -(r : Int) := ⟨(-(s / 4)).toNat, by omega⟩
      have := (str_neg_bd hr (by omega) (by omega) hF2).2.2
      have e : 2 ^ (201 - n) ≤ 2 ^ 193 := pow_le (by omega)
      omega
  have lo : 2 ^ (201 - n) ≤ str s F := by
    by_cases h0 : 0 ≤ s / 4
    · obtain ⟨k, hk⟩ := Int.eq_ofNat_of_zero_le h0
      have := (str_pos_bd hk (by omega) hF2).2.2
      have e : 2 ^ (201 - n) ≤ 2 ^ 193 := pow_le (by omega)
      omega
    · obtain ⟨r, hr⟩ : ∃ r : Nat, s / 4 = -(r : Int) := ⟨(-(s / 4)).toNat, by omega⟩
      have := (str_neg_bd hr (by omega) (by omega) hF2).1
      have e : 2 ^ (201 - n) ≤ 2 ^ 129 * 2 ^ (70 - r) := by rw [← Nat.pow_add]; exact pow_le (by omega)
      omega
  have hp := pow_pos (201 - n)
  have hq := pow_pos (n - 1)
  generalize str s F = S at *
  rw [u2] at r ⊢
  generalize 2 ^ (201 - n) = d at *
  generalize 2 ^ (n - 1) = m at *
  have q1 : 1 ≤ (2 * S + b.toNat) / (2 * d) := (Nat.le_div_iff_mul_le (by omega)).2 (by omega)
  have q2 : (2 * S + b.toNat) / (2 * d) < m - 1 := by
    rw [Nat.div_lt_iff_lt_mul (by omega)]
    have : (m - 1) * (2 * d) = 2 * (m * d) - 2 * d := by rw [Nat.sub_mul, Nat.one_mul, Nat.mul_left_comm]
    rw [this, u1]
    omega
  omega
theorem rpos_bd {n : Nat} (hn : Wd n) (s : Int) {F : Nat} (b : Bool) (hF2 : F < 2 ^ 128) : 1 ≤ rpos n s F b ∧ rpos n s F b ≤ 2 ^ (n - 1) - 1 := by
  have hb := hn.bd
  have : 2 ^ 1 ≤ 2 ^ (n - 1) := pow_le (by omega)
  unfold rpos
  split
  · omega
  · split
    · omega
    · exact rnd_in hn b (by omega) (by omega) hF2
def Dec (n p : Nat) (s : Int) (f : Nat) : Prop :=
  2 ^ 63 ≤ f ∧ f < 2 ^ 64 ∧ 8 - 4 * (n : Int) ≤ s ∧ s ≤ 4 * (n : Int) - 8 ∧ str s (f * 2 ^ 64) = p * 2 ^ (201 - n)
theorem Dec.F {n p : Nat} {s : Int} {f : Nat} (h : Dec n p s f) : 2 ^ 127 ≤ f * 2 ^ 64 ∧ f * 2 ^ 64 < 2 ^ 128 := by
  unfold Dec at h
  omega
theorem Dec.uniq {n p : Nat} (hn : Wd n) {s s' : Int} {f f' : Nat} (h : Dec n p s f) (h' : Dec n p s' f') : s = s' ∧ f = f' := by
  have hb := hn.bd
  have := str_inj (by unfold Dec at h; omega) (by unfold Dec at h; omega) (by unfold Dec at h'; omega) (by unfold Dec at h'; omega) h.F.1 h.F.2 h'.F.1 h'.F.2 (h.2.2.2.2.trans h'.2.2.2.2.symm)
  exact ⟨this.1, by omega⟩
end Go.Proofs.Ytnlbfomlfhigcaa.M
namespace Go.Proofs.Ytnlbfomlfhigcaa.M
open Go.RowKit Go.Proofs.YtnlbfomlfhigcaaW.PrintWords Go.Proofs.YtnlbfomlfhigcaaW.PrintLast Go.Proofs.YtnlbfomlfhigcaaW.PrintMore
theorem u64w (n : Int) : IntKind.u64.wrap n = n % 18446744073709551616 := by simp [IntKind.wrap, IntKind.bits, IntKind.signed]
theorem wrap64_id {n : Int} (h : -9223372036854775808 ≤ n) (h' : n ≤ 9223372036854775807) : wrap64 n = n := by unfold wrap64; omega
theorem p64 : (2 : Nat) ^ 64 = 18446744073709551616 := by decide
theorem p63 : (2 : Nat) ^ 63 = 9223372036854775808 := by decide
theorem cast_pow (j : Nat) : ((2 : Int) ^ j) = ((2 ^ j : Nat) : Int) := by simp
theorem shl_nat (x j : Nat) (hj : j ≤ 64) : shl .u64 (x : Int) (j : Int) = ((x * 2 ^ j % 2 ^ 64 : Nat) : Int) := by
  unfold shl
  rw [u64w, Int.toNat_natCast, Nat.min_eq_left (show j ≤ IntKind.u64.bits from hj), cast_pow, p64]
  omega
theorem shr_nat (x j : Nat) (hj : j ≤ 64) : shr .u64 (x : Int) (j : Int) = ((x / 2 ^ j : Nat) : Int) := by
  unfold shr
  rw [Int.toNat_natCast, Nat.min_eq_left (show j ≤ IntKind.u64.bits from hj), cast_pow]
  simp
theorem wraps_u64 (n : Int) (h₀ : 0 ≤ n) (h₁ : n < 2 ^ 64) : IntKind.u64.wrap n = n := by rw [u64w]; omega
theorem and_nat (a b : Nat) (ha : a < 2 ^ 64) (hb : b < 2 ^ 64) : Go.bits .and .u64 (a : Int) (b : Int) = ((a &&& b : Nat) : Int) :=
  (bits_nat .u64 64 (by decide) wraps_u64 a b ha hb).1
theorem or_nat (a b : Nat) (ha : a < 2 ^ 64) (hb : b < 2 ^ 64) : Go.bits .or .u64 (a : Int) (b : Int) = ((a ||| b : Nat) : Int) :=
  (bits_nat .u64 64 (by decide) wraps_u64 a b ha hb).2
theorem and_mask (a j : Nat) (ha : a < 2 ^ 64) (hj : j ≤ 64) : Go.bits .and .u64 (a : Int) ((2 ^ j - 1 : Nat) : Int) = ((a % 2 ^ j : Nat) : Int) := by
  have : 2 ^ j ≤ 2 ^ 64 := Nat.pow_le_pow_right (by decide) hj
  rw [and_nat a _ ha (by omega), Nat.and_two_pow_sub_one_eq_mod]
theorem or_add (a b i : Nat) (ha : a < 2 ^ 64) (hb : b < 2 ^ i) (hi : i ≤ 64) (hd : a % 2 ^ i = 0) : Go.bits .or .u64 (a : Int) (b : Int) = ((a + b : Nat) : Int) := by
  have : 2 ^ i ≤ 2 ^ 64 := Nat.pow_le_pow_right (by decide) hi
  rw [or_nat a b ha (by omega)]
  have hq : a = 2 ^ i * (a / 2 ^ i) := by
    have := Nat.div_add_mod a (2 ^ i)
    omega
  rw [hq, ← Nat.two_pow_add_eq_or_of_lt hb (a / 2 ^ i)]
theorem xor_all (a : Nat) (ha : a < 2 ^ 64) : Go.bits .xor .u64 18446744073709551615 (a : Int) = ((2 ^ 64 - 1 - a : Nat) : Int) := by
  have e : (18446744073709551615 : Int) = ((2 ^ 64 - 1 : Nat) : Int) := by decide
  unfold Go.bits
  rw [e]
  simp only [BitVec.ofInt_natCast]
  have h1 : BitVec.ofNat 64 (2 ^ 64 - 1) = BitVec.allOnes 64 := by rfl
  show IntKind.u64.wrap ((BitVec.ofNat 64 (2 ^ 64 - 1) ^^^ BitVec.ofNat 64 a).toNat : Nat) = _
  rw [h1, BitVec.allOnes_xor, BitVec.toNat_not, BitVec.toNat_ofNat, Nat.mod_eq_of_lt ha, u64w, p64]
  rw [p64] at ha
  omega
theorem mn_nat (a b : Nat) : mn (a : Int) (b : Int) = ((min a b : Nat) : Int) := by unfold mn; omega
end Go.Proofs.Ytnlbfomlfhigcaa.M
namespace Go.Proofs.Ytnlbfomlfhigcaa.M
open Go.RowKit Go.Proofs.YtnlbfomlfhigcaaW.PrintWords Go.Proofs.YtnlbfomlfhigcaaW.PrintLast Go.Proofs.YtnlbfomlfhigcaaW.PrintMore Go.Proofs.Ytnlbfomlfhigcaa.Q
theorem is_yes {n : Nat} (h : Wd n) : shape_is.f (n : Int) = some true := by rcases h with rfl | rfl | rfl | rfl <;> decide +kernel
theorem is_no {n : Int} (h : ¬ (n = 8 ∨ n = 16 ∨ n = 32 ∨ n = 64)) : shape_is.f n = some false := by
  unfold shape_is.f
  rw [if_neg (by omega), if_neg (by omega), if_neg (by omega), if_neg (by omega)]
theorem of_yes {n : Nat} (h : Wd n) : shape_Of.f (n : Int) = some ((n : Int), ((2 ^ (n - 1) - 1 : Nat) : Int), 1, ((2 ^ (n - 1) : Nat) : Int), 4 * (n : Int) - 8, none) := by rcases h with rfl | rfl | rfl | rfl <;> decide +kernel
theorem of_no {n : Int} (h : ¬ (n = 8 ∨ n = 16 ∨ n = 32 ∨ n = 64)) : shape_Of.f n = some (0, 0, 0, 0, 0, some 2) := by
  unfold shape_Of.f
  rw [is_no h]
  rfl
theorem mask_yes {n : Nat} (h : Wd n) : lead_Mask.f (n : Int) = some (((2 ^ n - 1 : Nat) : Int), none) := by rcases h with rfl | rfl | rfl | rfl <;> decide +kernel
theorem fold_yes {n : Nat} (h : Wd n) {x : Nat} (hx : x < 2 ^ 64) : shape_Fold.f (n : Int) (x : Int) = some (((x % 2 ^ n : Nat) : Int), none) := by
  unfold shape_Fold.f
  rw [is_yes h]
  simp only [Option.bind_some, if_true]
  rw [mask_yes h]
  simp only [Option.bind_some]
  rw [and_mask x n hx (by have := h.bd; omega)]
theorem fold_no {n : Int} (h : ¬ (n = 8 ∨ n = 16 ∨ n = 32 ∨ n = 64)) (x : Int) : shape_Fold.f n x = some (0, some 2) := by
  unfold shape_Fold.f
  rw [is_no h]
  rfl
theorem high_eq {n : Nat} (h : Wd n) : 0 ≤ wrap64 ((n : Int) - 1) ∧ shl .u64 1 (wrap64 ((n : Int) - 1)) = ((2 ^ (n - 1) : Nat) : Int) := by rcases h with rfl | rfl | rfl | rfl <;> decide +kernel
def knd (n y : Nat) : Nat := if y = 0 then 0 else if y = 2 ^ (n - 1) then 2 else 1
theorem kind_yes {n : Nat} (h : Wd n) {x : Nat} (hx : x < 2 ^ 64) : shape_Kind.f (n : Int) (x : Int) = some (((knd n (x % 2 ^ n) : Nat) : Int), none) := by
  unfold shape_Kind.f
  rw [fold_yes h hx]
  simp only [Option.bind_some, Option.isNone_none, if_true]
  generalize x % 2 ^ n = y
  rw [if_pos (high_eq h).1, (high_eq h).2]
  unfold knd
  by_cases e : y = 0
  · rw [if_pos e, if_pos (by omega)]; rfl
  · rw [if_neg e, if_neg (by omega)]
    by_cases e2 : y = 2 ^ (n - 1)
    · rw [if_pos e2, if_pos (by rw [e2])]; rfl
    · rw [if_neg e2, if_neg (by omega)]; rfl
theorem kind_no {n : Int} (h : ¬ (n = 8 ∨ n = 16 ∨ n = 32 ∨ n = 64)) (x : Int) : shape_Kind.f n x = some (0, some 2) := by
  unfold shape_Kind.f
  rw [fold_no h]
  rfl
def rk (n y : Nat) : Int := if y < 2 ^ (n - 1) then (y : Int) else (y : Int) - (2 ^ n : Nat)
theorem rank_yes {n : Nat} (h : Wd n) (x : Nat) : shape_Rank.f (n : Int) (x : Int) = some (rk n (x % 2 ^ n), none) := by
  unfold shape_Rank.f
  rw [is_yes h]
  simp only [Option.bind_some, if_true]
  unfold lead_Extend.f
  have e1 : ¬ (n : Int) < 1 := by have := h.bd; omega
  have e2 : ¬ (n : Int) > 64 := by have := h.bd; omega
  have e3 : wrap64 (64 - (n : Int)) = ((64 - n : Nat) : Int) := by have := h.bd; unfold wrap64; omega
  rw [if_neg e1, if_neg e2, e3, if_pos (by omega), shl_nat x (64 - n) (by omega)]
  simp only [Option.bind_some]
  congr 2
  unfold shr rk
  rw [Int.toNat_natCast, Nat.min_eq_left (show 64 - n ≤ IntKind.i64.bits from by show _ ≤ 64; omega), cast_pow]
  unfold wrap64
  rcases h with rfl | rfl | rfl | rfl <;> simp only [Nat.reduceSub, Nat.reducePow] <;> split <;> omega
theorem ones_nat {j : Nat} (hj : j ≤ 64) : lead_ones.f (j : Int) = some ((2 ^ j - 1 : Nat) : Int) := by
  unfold lead_ones.f
  by_cases e : j = 64
  · subst e; decide
  · rw [if_neg (by omega), if_pos (by omega)]
    have : shl .u64 1 (j : Int) = ((2 ^ j : Nat) : Int) := by
      have h1 := shl_nat 1 j (by omega)
      rw [Nat.one_mul, Nat.mod_eq_of_lt (Nat.pow_lt_pow_right (by decide) (by omega))] at h1
      exact h1
    rw [this, u64w]
    have h2 : 2 ^ j < 2 ^ 64 := Nat.pow_lt_pow_right (by decide) (by omega)
    have h3 := pow_pos j
    rw [p64] at h2
    congr 1
    omega
theorem field_nat {x a j : Nat} (hx : x < 2 ^ 64) (ha : a ≤ 64) (hj : j ≤ 64 - a) : lead_Field.f (x : Int) (a : Int) (j : Int) = some (((x / 2 ^ a % 2 ^ j : Nat) : Int), none) := by
  unfold lead_Field.f
  have e : lead_field.f (a : Int) (j : Int) = some true := by
    unfold lead_field.f
    rw [if_pos (by omega), if_pos (by omega), if_pos (by omega)]
    congr 1
    simp only [decide_eq_true_eq]
    unfold wrap64
    omega
  rw [e]
  simp only [Option.bind_some, if_true]
  rw [if_pos (by omega), ones_nat (by omega), shr_nat x a ha]
  simp only [Option.bind_some]
  rw [and_mask _ j (Nat.lt_of_le_of_lt (Nat.div_le_self _ _) hx) (by omega)]
end Go.Proofs.Ytnlbfomlfhigcaa.M
namespace Go.Proofs.Ytnlbfomlfhigcaa.Q
open Go.RowKit Go.Proofs.YtnlbfomlfhigcaaW.PrintWords Go.Proofs.YtnlbfomlfhigcaaW.PrintLast Go.Proofs.YtnlbfomlfhigcaaW.PrintMore
attribute [local go_sem] max2_int min2_int max_two min_two max_three min_three max_four min_four
set_option linter.unusedVariables false
set_option linter.unusedSimpArgs false
end Go.Proofs.Ytnlbfomlfhigcaa.Q
namespace Go.Proofs.Ytnlbfomlfhigcaa.Q
open Go.RowKit Go.Proofs.YtnlbfomlfhigcaaW.PrintWords Go.Proofs.YtnlbfomlfhigcaaW.PrintLast Go.Proofs.YtnlbfomlfhigcaaW.PrintMore
attribute [local go_sem] max2_int min2_int max_two min_two max_three min_three max_four min_four
set_option linter.unusedVariables false
set_option linter.unusedSimpArgs false
end Go.Proofs.Ytnlbfomlfhigcaa.Q
namespace Go.Proofs.Ytnlbfomlfhigcaa.Q
open Go.RowKit Go.Proofs.YtnlbfomlfhigcaaW.PrintWords Go.Proofs.YtnlbfomlfhigcaaW.PrintLast Go.Proofs.YtnlbfomlfhigcaaW.PrintMore
attribute [local go_sem] max2_int min2_int max_two min_two max_three min_three max_four min_four
set_option linter.unusedVariables false
set_option linter.unusedSimpArgs false
end Go.Proofs.Ytnlbfomlfhigcaa.Q
