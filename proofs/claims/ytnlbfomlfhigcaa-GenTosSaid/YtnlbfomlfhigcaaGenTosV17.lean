/- Walks and plain laws that the claim stands on: each theorem named calls says that a call of a function returns what its f computes; the others are plain laws of these f, and the words that the walks use. -/
import Derived.Test.YtnlbfomlfhigcaaGenTosV2
import Derived.Test.YtnlbfomlfhigcaaGenTosV16
import Derived.Test.YtnlbfomlfhigcaaGenTosV13
import Derived.Test.YtnlbfomlfhigcaaGenTosV15
import Derived.Test.YtnlbfomlfhigcaaGenTosV7
namespace Go.Proofs.Ytnlbfomlfhigcaa.Q
open Go.RowKit Go.Proofs.YtnlbfomlfhigcaaW.PrintWords Go.Proofs.YtnlbfomlfhigcaaW.PrintLast Go.Proofs.YtnlbfomlfhigcaaW.PrintMore
attribute [local go_sem] max2_int min2_int max_two min_two max_three min_three max_four min_four
set_option linter.unusedVariables false
set_option linter.unusedSimpArgs false
def vernierref07_Rounds.j0 : Nat → Int → Int → Bool → Int → Bool → Int → Int → Int → Bool → Option (Int × Int)
 | 0, _, _, _, _, _, _, _, _, _ => none
 | k + 1, x0, x6, x29, x464000, x464001, x464002, x464003, x464004, x464005 => if x29 = true then (if x464001 = true then ((vernierref06_Neg.f k x0 (IntKind.u64.wrap (x6 + 1))).bind fun t467 => (some (t467, 0))) else (some (IntKind.u64.wrap (x6 + 1), 0))) else (if x464001 = true then ((vernierref06_Neg.f k x0 x6).bind fun t468 => (some (t468, 0))) else (some (x6, 0)))
def vernierref07_Rounds.f (k : Nat) (a0 : Int) (a1_0 : Int) (a1_1 : Bool) (a1_2 : Int) (a1_3 : Int) (a1_4 : Int) (a1_5 : Bool) : Option (Int × Int) := (vernierref07_Cut.f k a0 a1_0 a1_1 a1_2 a1_3 a1_4 a1_5).bind fun bt464 => (if bt464.2.2 = 0 then (if bt464.2.1 = 3 then (vernierref07_Rounds.j0 k a0 bt464.1 true a1_0 a1_1 a1_2 a1_3 a1_4 a1_5) else (if bt464.2.1 = 2 then (vernierref07_Rounds.j0 k a0 bt464.1 ((Int.tmod bt464.1 2) == 1) a1_0 a1_1 a1_2 a1_3 a1_4 a1_5) else (vernierref07_Rounds.j0 k a0 bt464.1 false a1_0 a1_1 a1_2 a1_3 a1_4 a1_5))) else (some (0, bt464.2.2)))
set_option maxHeartbeats 8000000 in
set_option maxRecDepth 100000 in
theorem vernierref07_Rounds.calls (k : Nat) (a0 : Int) (a1_0 : Int) (a1_1 : Bool) (a1_2 : Int) (a1_3 : Int) (a1_4 : Int) (a1_5 : Bool) (r1 : Int) (r2 : Int) (w : World) (h : vernierref07_Rounds.f k a0 a1_0 a1_1 a1_2 a1_3 a1_4 a1_5 = some (r1, r2)) :
  Calls Try.prog 107 #[.int .i64 a0, .agg #[.int .i64 a1_0, .bool a1_1, .int .i64 a1_2, .int .u64 a1_3, .int .u64 a1_4, .bool a1_5]] w fun e w' => e = .returned (.tuple #[.int .u64 r1, .int .i64 r2]) ∧ Below w.heap.size w w' := by
 have hu86 := Try.underlying86
 have HB := Aside0.mk (Below.refl w.heap.size w)
 have H := h
 clear h
 unfold vernierref07_Rounds.f at H
 replace H := Option.bind_eq_some_iff.mp H
 obtain ⟨⟨t464, t465, t466⟩, A30, H⟩ := H
 try dsimp only at H
 have A3 := Aside0.mk A30
 clear A30
 by_cases c4 : t466 = 0
 ·rw [if_pos c4] at H
  obtain ⟨c4b0, c4b1⟩ := eqY c4
  clear c4
  have HC5 := Aside0.mk H
  clear H
  go_enter Try.func107, Try.ntmps107
  go_upto_region 4 with (first | ((with_reducible refine gate_dst (N := 3) rfl ?_); refine boxA 3 (#[.int .i64 a1_0, .bool a1_1, .int .i64 a1_2, .int .u64 a1_3, .int .u64 a1_4, .bool a1_5]) 86 ?_; intro gb463 hg w6 BK463 hb; have GW463 := geT hg; have GE463 := GW463; replace HB := hbS hb; clear hb hg; obtain ⟨z7_0, z7_1, z7_2, z7_3, z7_4, z7_5, y7_0, y7_1, y7_2, y7_3, y7_4, y7_5⟩ := cz6 BK463) | ((with_reducible refine gate_callee (f := 134) rfl ?_); refine goA (some 12) Try.func134 (vernierref07_Cut.calls k a0 a1_0 a1_1 a1_2 a1_3 a1_4 a1_5 t464 t465 t466 _ A3.out) ?_; intro w8 hb; replace BK463 := bkB BK463 hb; replace HB := hbS hb; clear hb))
  (try simp only [Act.put, List.setIfInBounds_toArray, List.set_cons_zero, List.set_cons_succ])
  go_cut [29] (fun v29 wc => ∃ (kq : Nat) (x29_4 : Bool), v29 = .bool x29_4 ∧ Aside0 (vernierref07_Rounds.j0 kq a0 t464 x29_4 a1_0 a1_1 a1_2 a1_3 a1_4 a1_5 = some (r1, r2)) ∧ Aside0 (kq ≤ k) ∧ Aside0 (wc.heap[gb463]? = some (.cells #[.int .i64 a1_0, .bool a1_1, .int .i64 a1_2, .int .u64 a1_3, .int .u64 a1_4, .bool a1_5] 86 (0, 0))) ∧ Aside0 (Below w.heap.size w wc))
  case first =>
   have H := HC5.out
   clear HC5
   by_cases c9 : t465 = 3
   ·rw [if_pos c9] at H
    obtain ⟨c9b0, c9b1⟩ := eqY c9
    clear c9
    (first | rw [c9b0] | (simp only [i64_w, i32_w]; rw [c9b0]) | rw [c9b1] | skip)
    have H' := Aside0.mk H
    clear H
    go_wp2
    go_meet
    case rel => exact ⟨_, (true), okT, H', leT, ⟨bkT BK463⟩, ⟨hbT⟩⟩
   ·rw [if_neg c9] at H
    obtain ⟨c9b0, c9b1⟩ := eqN c9
    (first | rw [c9b0] | (simp only [i64_w, i32_w]; rw [c9b0]) | rw [c9b1] | skip)
    by_cases c10 : t465 = 2
    ·rw [if_pos c10] at H
     obtain ⟨c10b0, c10b1⟩ := eqY c10
     clear c10
     have H' := Aside0.mk H
     clear H
     go_wp2
     go_meet
     case rel => exact ⟨_, (((Int.tmod t464 2) == 1)), okT, H', leT, ⟨bkT BK463⟩, ⟨hbT⟩⟩
    ·rw [if_neg c10] at H
     obtain ⟨c10b0, c10b1⟩ := eqN c10
     have H' := Aside0.mk H
     clear H
     go_wp2
     go_meet
     case rel => exact ⟨_, (false), okT, H', leT, ⟨bkT BK463⟩, ⟨hbT⟩⟩
  case rest =>
   clear HC5
   try clear c4
   try clear c4b0
   try clear c4b1
   try clear z7_0 z7_1 z7_2 z7_3 z7_4 z7_5 y7_0 y7_1 y7_2 y7_3 y7_4 y7_5
   obtain ⟨kq, x29_4, rfl, HA, HJ4, BK463, HB⟩ := hcut
   cases kq with
   | zero => exact absurd HA.out (by simp [vernierref07_Rounds.j0])
   | succ kj4 =>
    have H := HA.out
    clear HA
    simp only [vernierref07_Rounds.j0] at H
    by_cases c11 : x29_4 = true
    ·subst c11
     rw [if_pos rfl] at H
     by_cases c12 : a1_1 = true
     ·subst c12
      rw [if_pos rfl] at H
      replace H := Option.bind_eq_some_iff.mp H
      obtain ⟨t467, A130, H⟩ := H
      try dsimp only at H
      have A13 := Aside0.mk A130
      clear A130
      simp only [Option.some.injEq, Prod.mk.injEq] at H
      obtain ⟨rfl, rfl⟩ := H
      obtain ⟨z14_0, z14_1, z14_2, z14_3, z14_4, z14_5, y14_0, y14_1, y14_2, y14_3, y14_4, y14_5⟩ := cz6 BK463
      go_wp2_with (first | ((with_reducible refine gate_callee (f := 135) rfl ?_); refine goA (some 36) Try.func135 (vernierref06_Neg.calls kj4 a0 (IntKind.u64.wrap (t464 + 1)) t467 _ A13.out) ?_; intro w15 hb; replace BK463 := bkB BK463 hb; replace HB := hbS hb; clear hb))
      go_ret2
      exact ⟨reT, hbT⟩
     ·replace c12 := Bool.eq_false_iff.mpr c12
      subst c12
      rw [if_neg (show ¬ (false = true) by decide)] at H
      simp only [Option.some.injEq, Prod.mk.injEq] at H
      obtain ⟨rfl, rfl⟩ := H
      obtain ⟨z16_0, z16_1, z16_2, z16_3, z16_4, z16_5, y16_0, y16_1, y16_2, y16_3, y16_4, y16_5⟩ := cz6 BK463
      go_wp2
      go_ret2
      exact ⟨reT, hbT⟩
    ·replace c11 := Bool.eq_false_iff.mpr c11
     subst c11
     rw [if_neg (show ¬ (false = true) by decide)] at H
     by_cases c17 : a1_1 = true
     ·subst c17
      rw [if_pos rfl] at H
      replace H := Option.bind_eq_some_iff.mp H
      obtain ⟨t468, A180, H⟩ := H
      try dsimp only at H
      have A18 := Aside0.mk A180
      clear A180
      simp only [Option.some.injEq, Prod.mk.injEq] at H
      obtain ⟨rfl, rfl⟩ := H
      obtain ⟨z19_0, z19_1, z19_2, z19_3, z19_4, z19_5, y19_0, y19_1, y19_2, y19_3, y19_4, y19_5⟩ := cz6 BK463
      go_wp2_with (first | ((with_reducible refine gate_callee (f := 135) rfl ?_); refine goA (some 36) Try.func135 (vernierref06_Neg.calls kj4 a0 t464 t468 _ A18.out) ?_; intro w20 hb; replace BK463 := bkB BK463 hb; replace HB := hbS hb; clear hb))
      go_ret2
      exact ⟨reT, hbT⟩
     ·replace c17 := Bool.eq_false_iff.mpr c17
      subst c17
      rw [if_neg (show ¬ (false = true) by decide)] at H
      simp only [Option.some.injEq, Prod.mk.injEq] at H
      obtain ⟨rfl, rfl⟩ := H
      obtain ⟨z21_0, z21_1, z21_2, z21_3, z21_4, z21_5, y21_0, y21_1, y21_2, y21_3, y21_4, y21_5⟩ := cz6 BK463
      go_wp2
      go_ret2
      exact ⟨reT, hbT⟩
 ·rw [if_neg c4] at H
  obtain ⟨c4b0, c4b1⟩ := eqN c4
  simp only [Option.some.injEq, Prod.mk.injEq] at H
  obtain ⟨rfl, rfl⟩ := H
  go_enter Try.func107, Try.ntmps107
  go_wp2_with (first | ((with_reducible refine gate_dst (N := 3) rfl ?_); refine boxA 3 (#[.int .i64 a1_0, .bool a1_1, .int .i64 a1_2, .int .u64 a1_3, .int .u64 a1_4, .bool a1_5]) 86 ?_; intro gb463 hg w22 BK463 hb; have GW463 := geT hg; have GE463 := GW463; replace HB := hbS hb; clear hb hg; obtain ⟨z23_0, z23_1, z23_2, z23_3, z23_4, z23_5, y23_0, y23_1, y23_2, y23_3, y23_4, y23_5⟩ := cz6 BK463) | ((with_reducible refine gate_callee (f := 134) rfl ?_); refine goA (some 12) Try.func134 (vernierref07_Cut.calls k a0 a1_0 a1_1 a1_2 a1_3 a1_4 a1_5 t464 t465 t466 _ A3.out) ?_; intro w24 hb; replace BK463 := bkB BK463 hb; replace HB := hbS hb; clear hb))
  go_ret2
  exact ⟨reT, hbT⟩
end Go.Proofs.Ytnlbfomlfhigcaa.Q
namespace Go.Proofs.Ytnlbfomlfhigcaa.Q
open Go.RowKit Go.Proofs.YtnlbfomlfhigcaaW.PrintWords Go.Proofs.YtnlbfomlfhigcaaW.PrintLast Go.Proofs.YtnlbfomlfhigcaaW.PrintMore
attribute [local go_sem] max2_int min2_int max_two min_two max_three min_three max_four min_four
set_option linter.unusedVariables false
set_option linter.unusedSimpArgs false
def vernierref07_Round.f (k : Nat) (a0 : Int) (a1_0 : Int) (a1_1 : Bool) (a1_2 : Int) (a1_3 : Int) (a1_4 : Int) (a1_5 : Bool) : Option (Int) := (vernierref07_Rounds.f k a0 a1_0 a1_1 a1_2 a1_3 a1_4 a1_5).bind fun bt470 => (some bt470.1)
set_option maxHeartbeats 8000000 in
set_option maxRecDepth 100000 in
theorem vernierref07_Round.calls (k : Nat) (a0 : Int) (a1_0 : Int) (a1_1 : Bool) (a1_2 : Int) (a1_3 : Int) (a1_4 : Int) (a1_5 : Bool) (r : Int) (w : World) (h : vernierref07_Round.f k a0 a1_0 a1_1 a1_2 a1_3 a1_4 a1_5 = some r) :
  Calls Try.prog 85 #[.int .i64 a0, .agg #[.int .i64 a1_0, .bool a1_1, .int .i64 a1_2, .int .u64 a1_3, .int .u64 a1_4, .bool a1_5]] w fun e w' => e = .returned (.int .u64 r) ∧ Below w.heap.size w w' := by
 have hu86 := Try.underlying86
 have HB := Aside0.mk (Below.refl w.heap.size w)
 have H := h
 clear h
 unfold vernierref07_Round.f at H
 replace H := Option.bind_eq_some_iff.mp H
 obtain ⟨⟨t470, t471⟩, A30, H⟩ := H
 try dsimp only at H
 have A3 := Aside0.mk A30
 clear A30
 obtain rfl := Option.some.inj H
 go_enter Try.func85, Try.ntmps85
 go_wp2_with (first | ((with_reducible refine gate_dst (N := 3) rfl ?_); refine boxA 3 (#[.int .i64 a1_0, .bool a1_1, .int .i64 a1_2, .int .u64 a1_3, .int .u64 a1_4, .bool a1_5]) 86 ?_; intro gb469 hg w4 BK469 hb; have GW469 := geT hg; have GE469 := GW469; replace HB := hbS hb; clear hb hg; obtain ⟨z5_0, z5_1, z5_2, z5_3, z5_4, z5_5, y5_0, y5_1, y5_2, y5_3, y5_4, y5_5⟩ := cz6 BK469) | ((with_reducible refine gate_callee (f := 107) rfl ?_); refine goA (some 10) Try.func107 (vernierref07_Rounds.calls k a0 a1_0 a1_1 a1_2 a1_3 a1_4 a1_5 t470 t471 _ A3.out) ?_; intro w6 hb; replace BK469 := bkB BK469 hb; replace HB := hbS hb; clear hb))
 go_ret
 exact ⟨reT, hbT⟩
end Go.Proofs.Ytnlbfomlfhigcaa.Q
namespace Go.Proofs.Ytnlbfomlfhigcaa.Q
open Go.RowKit Go.Proofs.YtnlbfomlfhigcaaW.PrintWords Go.Proofs.YtnlbfomlfhigcaaW.PrintLast Go.Proofs.YtnlbfomlfhigcaaW.PrintMore
attribute [local go_sem] max2_int min2_int max_two min_two max_three min_three max_four min_four
set_option linter.unusedVariables false
set_option linter.unusedSimpArgs false
def vernierref14_Convert.f (k : Nat) (a0 : Int) (a1 : Int) (a2 : Int) : Option (Int) := (vernierref06_Decode.f k a0 a2).bind fun bt472 => ((vernierref07_Of.f bt472.1 bt472.2.1 bt472.2.2.1 bt472.2.2.2).bind fun bt476 => ((vernierref07_Round.f k a1 bt476.1 bt476.2.1 bt476.2.2.1 bt476.2.2.2.1 bt476.2.2.2.2.1 bt476.2.2.2.2.2.1).bind fun t484 => (some t484)))
set_option maxHeartbeats 8000000 in
set_option maxRecDepth 100000 in
theorem vernierref14_Convert.calls (k : Nat) (a0 : Int) (a1 : Int) (a2 : Int) (r : Int) (w : World) (h : vernierref14_Convert.f k a0 a1 a2 = some r) :
  Calls Try.prog 37 #[.int .i64 a0, .int .i64 a1, .int .u64 a2] w fun e w' => e = .returned (.int .u64 r) ∧ Below w.heap.size w w' := by
 have hu86 := Try.underlying86
 have HB := Aside0.mk (Below.refl w.heap.size w)
 have H := h
 clear h
 unfold vernierref14_Convert.f at H
 replace H := Option.bind_eq_some_iff.mp H
 obtain ⟨⟨t472, t473, t474, t475⟩, A40, H⟩ := H
 try dsimp only at H
 have A4 := Aside0.mk A40
 clear A40
 replace H := Option.bind_eq_some_iff.mp H
 obtain ⟨⟨t476, t477, t478, t479, t480, t481, t482⟩, A50, H⟩ := H
 try dsimp only at H
 have A5 := Aside0.mk A50
 clear A50
 replace H := Option.bind_eq_some_iff.mp H
 obtain ⟨t484, A60, H⟩ := H
 try dsimp only at H
 have A6 := Aside0.mk A60
 clear A60
 obtain rfl := Option.some.inj H
 go_enter Try.func37, Try.ntmps37
 go_wp2_with (first | ((with_reducible refine gate_callee (f := 84) rfl ?_); refine goA (some 12) Try.func84 (vernierref06_Decode.calls k a0 a2 t472 t473 t474 t475 _ A4.out) ?_; intro w7 hb; replace HB := hbS hb; clear hb) | ((with_reducible refine gate_callee (f := 83) rfl ?_); refine goA (some 13) Try.func83 (vernierref07_Of.calls t472 t473 t474 t475 t476 t477 t478 t479 t480 t481 t482 _ A5.out) ?_; intro w8 hb; replace HB := hbS hb; clear hb) | ((with_reducible refine gate_dst (N := 7) rfl ?_); refine boxA 7 (#[.int .i64 0, .bool false, .int .i64 0, .int .u64 0, .int .u64 0, .bool false]) 86 ?_; intro gb483 hg w9 BK483 hb; have GW483 := geT hg; have GE483 := GW483; replace HB := hbS hb; clear hb hg; obtain ⟨z10_0, z10_1, z10_2, z10_3, z10_4, z10_5, y10_0, y10_1, y10_2, y10_3, y10_4, y10_5⟩ := cz6 BK483) | ((with_reducible refine gate_callee (f := 85) rfl ?_); refine goA (some 18) Try.func85 (vernierref07_Round.calls k a1 t476 t477 t478 t479 t480 t481 t484 _ A6.out) ?_; intro w11 hb; replace BK483 := bkB (o := .cells #[.int .i64 t476, .bool t477, .int .i64 t478, .int .u64 t479, .int .u64 t480, .bool t481] 86 (0, 0)) BK483 hb; replace HB := hbS hb; clear hb))
 go_ret
 exact ⟨reT, hbT⟩
end Go.Proofs.Ytnlbfomlfhigcaa.Q
namespace Go.Proofs.Ytnlbfomlfhigcaa.Q
open Go.RowKit Go.Proofs.YtnlbfomlfhigcaaW.PrintWords Go.Proofs.YtnlbfomlfhigcaaW.PrintLast Go.Proofs.YtnlbfomlfhigcaaW.PrintMore
attribute [local go_sem] max2_int min2_int max_two min_two max_three min_three max_four min_four
set_option linter.unusedVariables false
set_option linter.unusedSimpArgs false
def gen_P8_38.f (k : Nat) (a0 : Int) : Option (Int) := (gen_P8_57.f k).bind fun t485 => ((gen_P32_63.f k).bind fun t486 => ((gen_Convert.f k t485 t486 (IntKind.u64.wrap (a0))).bind fun bt487 => (some ((bt487.1) % 4294967296))))
set_option maxHeartbeats 8000000 in
set_option maxRecDepth 100000 in
theorem gen_P8_38.calls (k : Nat) (a0 : Int) (r : Int) (w : World) (h : gen_P8_38.f k a0 = some r) :
  Calls Try.prog 38 #[.int .u8 a0] w fun e w' => e = .returned (.int .u32 r) ∧ Below w.heap.size w w' := by
 have HB := Aside0.mk (Below.refl w.heap.size w)
 have H := h
 clear h
 unfold gen_P8_38.f at H
 replace H := Option.bind_eq_some_iff.mp H
 obtain ⟨t485, A20, H⟩ := H
 try dsimp only at H
 have A2 := Aside0.mk A20
 clear A20
 replace H := Option.bind_eq_some_iff.mp H
 obtain ⟨t486, A30, H⟩ := H
 try dsimp only at H
 have A3 := Aside0.mk A30
 clear A30
 replace H := Option.bind_eq_some_iff.mp H
 obtain ⟨⟨t487, t488⟩, A40, H⟩ := H
 try dsimp only at H
 have A4 := Aside0.mk A40
 clear A40
 obtain rfl := Option.some.inj H
 go_enter Try.func38, Try.ntmps38
 go_wp2_with (first | ((with_reducible refine gate_callee (f := 57) rfl ?_); refine goesL_ (some 6) rfl rfl Try.func57 (by kernel_rfl) rfl #[] rfl (by (try simp only [List.map_toArray, List.map_cons, List.map_nil]); first | done | rfl | (simp only [List.length_drop, List.length_take]; rfl)) ?_; (with_reducible refine (gen_P8_57.calls k  t485 _ A2.out).mono ?_); rintro e w' ⟨rfl, ⟨nd, rfl⟩⟩; refine ⟨_, rfl, ?_⟩) | ((with_reducible refine gate_callee (f := 63) rfl ?_); refine goesL_ (some 7) rfl rfl Try.func63 (by kernel_rfl) rfl #[] rfl (by (try simp only [List.map_toArray, List.map_cons, List.map_nil]); first | done | rfl | (simp only [List.length_drop, List.length_take]; rfl)) ?_; (with_reducible refine (gen_P32_63.calls k  t486 _ A3.out).mono ?_); rintro e w' ⟨rfl, ⟨nd, rfl⟩⟩; refine ⟨_, rfl, ?_⟩) | ((with_reducible refine gate_callee (f := 45) rfl ?_); refine goA (some 10) Try.func45 (gen_Convert.calls k t485 t486 (IntKind.u64.wrap (a0)) t487 t488 _ A4.out) ?_; intro w5 hb; replace HB := hbS hb; clear hb; (try simp only [errW_none, errW_some])))
 go_ret
 exact ⟨reT, hbT⟩
end Go.Proofs.Ytnlbfomlfhigcaa.Q
namespace Go.Proofs.Ytnlbfomlfhigcaa.Q
open Go.RowKit Go.Proofs.YtnlbfomlfhigcaaW.PrintWords Go.Proofs.YtnlbfomlfhigcaaW.PrintLast Go.Proofs.YtnlbfomlfhigcaaW.PrintMore
attribute [local go_sem] max2_int min2_int max_two min_two max_three min_three max_four min_four
set_option linter.unusedVariables false
set_option linter.unusedSimpArgs false
def gen_P16_39.f (k : Nat) (a0 : Int) : Option (Int) := (gen_P16_61.f k).bind fun t489 => ((gen_P8_57.f k).bind fun t490 => ((gen_Convert.f k t489 t490 (IntKind.u64.wrap (a0))).bind fun bt491 => (some ((bt491.1) % 256))))
set_option maxHeartbeats 8000000 in
set_option maxRecDepth 100000 in
theorem gen_P16_39.calls (k : Nat) (a0 : Int) (r : Int) (w : World) (h : gen_P16_39.f k a0 = some r) :
  Calls Try.prog 39 #[.int .u16 a0] w fun e w' => e = .returned (.int .u8 r) ∧ Below w.heap.size w w' := by
 have HB := Aside0.mk (Below.refl w.heap.size w)
 have H := h
 clear h
 unfold gen_P16_39.f at H
 replace H := Option.bind_eq_some_iff.mp H
 obtain ⟨t489, A20, H⟩ := H
 try dsimp only at H
 have A2 := Aside0.mk A20
 clear A20
 replace H := Option.bind_eq_some_iff.mp H
 obtain ⟨t490, A30, H⟩ := H
 try dsimp only at H
 have A3 := Aside0.mk A30
 clear A30
 replace H := Option.bind_eq_some_iff.mp H
 obtain ⟨⟨t491, t492⟩, A40, H⟩ := H
 try dsimp only at H
 have A4 := Aside0.mk A40
 clear A40
 obtain rfl := Option.some.inj H
 go_enter Try.func39, Try.ntmps39
 go_wp2_with (first | ((with_reducible refine gate_callee (f := 61) rfl ?_); refine goesL_ (some 6) rfl rfl Try.func61 (by kernel_rfl) rfl #[] rfl (by (try simp only [List.map_toArray, List.map_cons, List.map_nil]); first | done | rfl | (simp only [List.length_drop, List.length_take]; rfl)) ?_; (with_reducible refine (gen_P16_61.calls k  t489 _ A2.out).mono ?_); rintro e w' ⟨rfl, ⟨nd, rfl⟩⟩; refine ⟨_, rfl, ?_⟩) | ((with_reducible refine gate_callee (f := 57) rfl ?_); refine goesL_ (some 7) rfl rfl Try.func57 (by kernel_rfl) rfl #[] rfl (by (try simp only [List.map_toArray, List.map_cons, List.map_nil]); first | done | rfl | (simp only [List.length_drop, List.length_take]; rfl)) ?_; (with_reducible refine (gen_P8_57.calls k  t490 _ A3.out).mono ?_); rintro e w' ⟨rfl, ⟨nd, rfl⟩⟩; refine ⟨_, rfl, ?_⟩) | ((with_reducible refine gate_callee (f := 45) rfl ?_); refine goA (some 10) Try.func45 (gen_Convert.calls k t489 t490 (IntKind.u64.wrap (a0)) t491 t492 _ A4.out) ?_; intro w5 hb; replace HB := hbS hb; clear hb; (try simp only [errW_none, errW_some])))
 go_ret
 exact ⟨reT, hbT⟩
end Go.Proofs.Ytnlbfomlfhigcaa.Q
namespace Go.Proofs.Ytnlbfomlfhigcaa.Q
open Go.RowKit Go.Proofs.YtnlbfomlfhigcaaW.PrintWords Go.Proofs.YtnlbfomlfhigcaaW.PrintLast Go.Proofs.YtnlbfomlfhigcaaW.PrintMore
attribute [local go_sem] max2_int min2_int max_two min_two max_three min_three max_four min_four
set_option linter.unusedVariables false
set_option linter.unusedSimpArgs false
def gen_P32_40.f (k : Nat) (a0 : Int) : Option (Int) := (gen_P32_63.f k).bind fun t493 => ((gen_P8_57.f k).bind fun t494 => ((gen_Convert.f k t493 t494 (IntKind.u64.wrap (a0))).bind fun bt495 => (some ((bt495.1) % 256))))
set_option maxHeartbeats 8000000 in
set_option maxRecDepth 100000 in
theorem gen_P32_40.calls (k : Nat) (a0 : Int) (r : Int) (w : World) (h : gen_P32_40.f k a0 = some r) :
  Calls Try.prog 40 #[.int .u32 a0] w fun e w' => e = .returned (.int .u8 r) ∧ Below w.heap.size w w' := by
 have HB := Aside0.mk (Below.refl w.heap.size w)
 have H := h
 clear h
 unfold gen_P32_40.f at H
 replace H := Option.bind_eq_some_iff.mp H
 obtain ⟨t493, A20, H⟩ := H
 try dsimp only at H
 have A2 := Aside0.mk A20
 clear A20
 replace H := Option.bind_eq_some_iff.mp H
 obtain ⟨t494, A30, H⟩ := H
 try dsimp only at H
 have A3 := Aside0.mk A30
 clear A30
 replace H := Option.bind_eq_some_iff.mp H
 obtain ⟨⟨t495, t496⟩, A40, H⟩ := H
 try dsimp only at H
 have A4 := Aside0.mk A40
 clear A40
 obtain rfl := Option.some.inj H
 go_enter Try.func40, Try.ntmps40
 go_wp2_with (first | ((with_reducible refine gate_callee (f := 63) rfl ?_); refine goesL_ (some 6) rfl rfl Try.func63 (by kernel_rfl) rfl #[] rfl (by (try simp only [List.map_toArray, List.map_cons, List.map_nil]); first | done | rfl | (simp only [List.length_drop, List.length_take]; rfl)) ?_; (with_reducible refine (gen_P32_63.calls k  t493 _ A2.out).mono ?_); rintro e w' ⟨rfl, ⟨nd, rfl⟩⟩; refine ⟨_, rfl, ?_⟩) | ((with_reducible refine gate_callee (f := 57) rfl ?_); refine goesL_ (some 7) rfl rfl Try.func57 (by kernel_rfl) rfl #[] rfl (by (try simp only [List.map_toArray, List.map_cons, List.map_nil]); first | done | rfl | (simp only [List.length_drop, List.length_take]; rfl)) ?_; (with_reducible refine (gen_P8_57.calls k  t494 _ A3.out).mono ?_); rintro e w' ⟨rfl, ⟨nd, rfl⟩⟩; refine ⟨_, rfl, ?_⟩) | ((with_reducible refine gate_callee (f := 45) rfl ?_); refine goA (some 10) Try.func45 (gen_Convert.calls k t493 t494 (IntKind.u64.wrap (a0)) t495 t496 _ A4.out) ?_; intro w5 hb; replace HB := hbS hb; clear hb; (try simp only [errW_none, errW_some])))
 go_ret
 exact ⟨reT, hbT⟩
end Go.Proofs.Ytnlbfomlfhigcaa.Q
namespace Go.Proofs.Ytnlbfomlfhigcaa.Q
open Go.RowKit Go.Proofs.YtnlbfomlfhigcaaW.PrintWords Go.Proofs.YtnlbfomlfhigcaaW.PrintLast Go.Proofs.YtnlbfomlfhigcaaW.PrintMore
attribute [local go_sem] max2_int min2_int max_two min_two max_three min_three max_four min_four
set_option linter.unusedVariables false
set_option linter.unusedSimpArgs false
def gen_P32_41.f (k : Nat) (a0 : Int) : Option (Int) := (gen_P32_63.f k).bind fun t497 => ((vernierlaw14_Own.f k).bind fun t498 => ((gen_Convert.f k t497 t498 (IntKind.u64.wrap (a0))).bind fun bt499 => (some (IntKind.u16.wrap (bt499.1)))))
set_option maxHeartbeats 8000000 in
set_option maxRecDepth 100000 in
theorem gen_P32_41.calls (k : Nat) (a0 : Int) (r : Int) (w : World) (h : gen_P32_41.f k a0 = some r) :
  Calls Try.prog 41 #[.int .u32 a0] w fun e w' => e = .returned (.int .u16 r) ∧ Below w.heap.size w w' := by
 have HB := Aside0.mk (Below.refl w.heap.size w)
 have H := h
 clear h
 unfold gen_P32_41.f at H
 replace H := Option.bind_eq_some_iff.mp H
 obtain ⟨t497, A20, H⟩ := H
 try dsimp only at H
 have A2 := Aside0.mk A20
 clear A20
 replace H := Option.bind_eq_some_iff.mp H
 obtain ⟨t498, A30, H⟩ := H
 try dsimp only at H
 have A3 := Aside0.mk A30
 clear A30
 replace H := Option.bind_eq_some_iff.mp H
 obtain ⟨⟨t499, t500⟩, A40, H⟩ := H
 try dsimp only at H
 have A4 := Aside0.mk A40
 clear A40
 obtain rfl := Option.some.inj H
 go_enter Try.func41, Try.ntmps41
 go_wp2_with (first | ((with_reducible refine gate_callee (f := 63) rfl ?_); refine goesL_ (some 6) rfl rfl Try.func63 (by kernel_rfl) rfl #[] rfl (by (try simp only [List.map_toArray, List.map_cons, List.map_nil]); first | done | rfl | (simp only [List.length_drop, List.length_take]; rfl)) ?_; (with_reducible refine (gen_P32_63.calls k  t497 _ A2.out).mono ?_); rintro e w' ⟨rfl, ⟨nd, rfl⟩⟩; refine ⟨_, rfl, ?_⟩) | ((with_reducible refine gate_callee (f := 82) rfl ?_); refine goesL_ (some 7) rfl rfl Try.func82 (by kernel_rfl) rfl #[] rfl (by (try simp only [List.map_toArray, List.map_cons, List.map_nil]); first | done | rfl | (simp only [List.length_drop, List.length_take]; rfl)) ?_; (with_reducible refine (vernierlaw14_Own.calls k  t498 _ A3.out).mono ?_); rintro e w' ⟨rfl, ⟨nd, rfl⟩⟩; refine ⟨_, rfl, ?_⟩) | ((with_reducible refine gate_callee (f := 45) rfl ?_); refine goA (some 10) Try.func45 (gen_Convert.calls k t497 t498 (IntKind.u64.wrap (a0)) t499 t500 _ A4.out) ?_; intro w5 hb; replace HB := hbS hb; clear hb; (try simp only [errW_none, errW_some])))
 go_ret
 exact ⟨reT, hbT⟩
end Go.Proofs.Ytnlbfomlfhigcaa.Q
namespace Go.Proofs.Ytnlbfomlfhigcaa.Q
open Go.RowKit Go.Proofs.YtnlbfomlfhigcaaW.PrintWords Go.Proofs.YtnlbfomlfhigcaaW.PrintLast Go.Proofs.YtnlbfomlfhigcaaW.PrintMore
attribute [local go_sem] max2_int min2_int max_two min_two max_three min_three max_four min_four
set_option linter.unusedVariables false
set_option linter.unusedSimpArgs false
def gen_P32_42.f (k : Nat) (a0 : Int) : Option (Int) := (gen_P32_63.f k).bind fun t501 => ((gen_P64_22.f k).bind fun t502 => ((gen_Convert.f k t501 t502 (IntKind.u64.wrap (a0))).bind fun bt503 => (some bt503.1)))
set_option maxHeartbeats 8000000 in
set_option maxRecDepth 100000 in
theorem gen_P32_42.calls (k : Nat) (a0 : Int) (r : Int) (w : World) (h : gen_P32_42.f k a0 = some r) :
  Calls Try.prog 42 #[.int .u32 a0] w fun e w' => e = .returned (.int .u64 r) ∧ Below w.heap.size w w' := by
 have HB := Aside0.mk (Below.refl w.heap.size w)
 have H := h
 clear h
 unfold gen_P32_42.f at H
 replace H := Option.bind_eq_some_iff.mp H
 obtain ⟨t501, A20, H⟩ := H
 try dsimp only at H
 have A2 := Aside0.mk A20
 clear A20
 replace H := Option.bind_eq_some_iff.mp H
 obtain ⟨t502, A30, H⟩ := H
 try dsimp only at H
 have A3 := Aside0.mk A30
 clear A30
 replace H := Option.bind_eq_some_iff.mp H
 obtain ⟨⟨t503, t504⟩, A40, H⟩ := H
 try dsimp only at H
 have A4 := Aside0.mk A40
 clear A40
 obtain rfl := Option.some.inj H
 go_enter Try.func42, Try.ntmps42
 go_wp2_with (first | ((with_reducible refine gate_callee (f := 63) rfl ?_); refine goesL_ (some 6) rfl rfl Try.func63 (by kernel_rfl) rfl #[] rfl (by (try simp only [List.map_toArray, List.map_cons, List.map_nil]); first | done | rfl | (simp only [List.length_drop, List.length_take]; rfl)) ?_; (with_reducible refine (gen_P32_63.calls k  t501 _ A2.out).mono ?_); rintro e w' ⟨rfl, ⟨nd, rfl⟩⟩; refine ⟨_, rfl, ?_⟩) | ((with_reducible refine gate_callee (f := 22) rfl ?_); refine goesL_ (some 7) rfl rfl Try.func22 (by kernel_rfl) rfl #[] rfl (by (try simp only [List.map_toArray, List.map_cons, List.map_nil]); first | done | rfl | (simp only [List.length_drop, List.length_take]; rfl)) ?_; (with_reducible refine (gen_P64_22.calls k  t502 _ A3.out).mono ?_); rintro e w' ⟨rfl, ⟨nd, rfl⟩⟩; refine ⟨_, rfl, ?_⟩) | ((with_reducible refine gate_callee (f := 45) rfl ?_); refine goA (some 10) Try.func45 (gen_Convert.calls k t501 t502 (IntKind.u64.wrap (a0)) t503 t504 _ A4.out) ?_; intro w5 hb; replace HB := hbS hb; clear hb; (try simp only [errW_none, errW_some])))
 go_ret
 exact ⟨reT, hbT⟩
end Go.Proofs.Ytnlbfomlfhigcaa.Q
namespace Go.Proofs.Ytnlbfomlfhigcaa.Q
open Go.RowKit Go.Proofs.YtnlbfomlfhigcaaW.PrintWords Go.Proofs.YtnlbfomlfhigcaaW.PrintLast Go.Proofs.YtnlbfomlfhigcaaW.PrintMore
attribute [local go_sem] max2_int min2_int max_two min_two max_three min_three max_four min_four
set_option linter.unusedVariables false
set_option linter.unusedSimpArgs false
def gen_Width_uint32.l0 : Nat → Int → Int → Option (Int)
 | 0, _, _ => none
 | k + 1, x1, x2 => if x2 = 0 then (some x1) else (gen_Width_uint32.l0 k (wrap64 (x1 + 1)) (x2 / 2))
def gen_Width_uint32.f (k : Nat)  : Option (Int) := gen_Width_uint32.l0 k 0 (Go.bits .xor .u32 4294967295 0)
set_option maxHeartbeats 8000000 in
set_option maxRecDepth 100000 in
theorem gen_Width_uint32.calls (k : Nat)  (r : Int) (w : World) (h : gen_Width_uint32.f k  = some r) :
  Calls Try.prog 86 #[] w fun e w' => e = .returned (.int .i64 r) ∧ Drawn0 w w' := by
 have H := h
 clear h
 unfold gen_Width_uint32.f at H
 have H' := Aside0.mk H
 clear H
 go_enter Try.func86, Try.ntmps86
 go_wp2
 go_loopg [1, 2] k (fun kq v1 v2 w' => ∃ (x1_1 : Int) (x2_1 : Int), v1 = .int .i64 x1_1 ∧ v2 = .int .u32 x2_1 ∧ Aside0 (gen_Width_uint32.l0 kq x1_1 x2_1 = some r) ∧ Aside0 (kq ≤ k) ∧ Drawn0 w w')
 case atStart => exact ⟨(0), (Go.bits .xor .u32 4294967295 0), okT, okT, H', ⟨Nat.le_refl _⟩, by repeat (first | exact Drawn0.refl _ | apply Drawn0.step)⟩
 case round =>
  clear H'
  obtain ⟨x1_1, x2_1, rfl, rfl, HA, HK1, ⟨m1, rfl⟩⟩ := hrel
  cases gk with
  | zero => exact absurd HA.out (by simp [gen_Width_uint32.l0])
  | succ k1 =>
   have H := HA.out
   clear HA
   simp only [gen_Width_uint32.l0] at H
   by_cases c1 : x2_1 = 0
   ·rw [if_pos c1] at H
    obtain ⟨c1b0, c1b1⟩ := eqY c1
    clear c1
    obtain rfl := Option.some.inj H
    go_wp2
    go_ret
    exact ⟨okT, by repeat (first | exact Drawn0.refl _ | apply Drawn0.step)⟩
   ·rw [if_neg c1] at H
    obtain ⟨c1b0, c1b1⟩ := eqN c1
    have H' := Aside0.mk H
    clear H
    go_wp2
    go_roundg k1
    case measure => have := HK1.out; omega
    case rel => exact ⟨(wrap64 (x1_1 + 1)), (x2_1 / 2), okT, okT, H', ⟨by have := HK1.out; omega⟩, by repeat (first | exact Drawn0.refl _ | apply Drawn0.step)⟩
end Go.Proofs.Ytnlbfomlfhigcaa.Q
namespace Go.Proofs.Ytnlbfomlfhigcaa.Q
open Go.RowKit Go.Proofs.YtnlbfomlfhigcaaW.PrintWords Go.Proofs.YtnlbfomlfhigcaaW.PrintLast Go.Proofs.YtnlbfomlfhigcaaW.PrintMore
attribute [local go_sem] max2_int min2_int max_two min_two max_three min_three max_four min_four
set_option linter.unusedVariables false
set_option linter.unusedSimpArgs false
def gen_P64_43.f (k : Nat) (a0 : Int) : Option (Int) := (gen_P64_22.f k).bind fun t505 => ((gen_Width_uint32.f k).bind fun t506 => ((gen_Convert.f k t505 t506 a0).bind fun bt507 => (some ((bt507.1) % 4294967296))))
set_option maxHeartbeats 8000000 in
set_option maxRecDepth 100000 in
theorem gen_P64_43.calls (k : Nat) (a0 : Int) (r : Int) (w : World) (h : gen_P64_43.f k a0 = some r) :
  Calls Try.prog 43 #[.int .u64 a0] w fun e w' => e = .returned (.int .u32 r) ∧ Below w.heap.size w w' := by
 have HB := Aside0.mk (Below.refl w.heap.size w)
 have H := h
 clear h
 unfold gen_P64_43.f at H
 replace H := Option.bind_eq_some_iff.mp H
 obtain ⟨t505, A20, H⟩ := H
 try dsimp only at H
 have A2 := Aside0.mk A20
 clear A20
 replace H := Option.bind_eq_some_iff.mp H
 obtain ⟨t506, A30, H⟩ := H
 try dsimp only at H
 have A3 := Aside0.mk A30
 clear A30
 replace H := Option.bind_eq_some_iff.mp H
 obtain ⟨⟨t507, t508⟩, A40, H⟩ := H
 try dsimp only at H
 have A4 := Aside0.mk A40
 clear A40
 obtain rfl := Option.some.inj H
 go_enter Try.func43, Try.ntmps43
 go_wp2_with (first | ((with_reducible refine gate_callee (f := 22) rfl ?_); refine goesL_ (some 6) rfl rfl Try.func22 (by kernel_rfl) rfl #[] rfl (by (try simp only [List.map_toArray, List.map_cons, List.map_nil]); first | done | rfl | (simp only [List.length_drop, List.length_take]; rfl)) ?_; (with_reducible refine (gen_P64_22.calls k  t505 _ A2.out).mono ?_); rintro e w' ⟨rfl, ⟨nd, rfl⟩⟩; refine ⟨_, rfl, ?_⟩) | ((with_reducible refine gate_callee (f := 86) rfl ?_); refine goesL_ (some 7) rfl rfl Try.func86 (by kernel_rfl) rfl #[] rfl (by (try simp only [List.map_toArray, List.map_cons, List.map_nil]); first | done | rfl | (simp only [List.length_drop, List.length_take]; rfl)) ?_; (with_reducible refine (gen_Width_uint32.calls k  t506 _ A3.out).mono ?_); rintro e w' ⟨rfl, ⟨nd, rfl⟩⟩; refine ⟨_, rfl, ?_⟩) | ((with_reducible refine gate_callee (f := 45) rfl ?_); refine goA (some 9) Try.func45 (gen_Convert.calls k t505 t506 a0 t507 t508 _ A4.out) ?_; intro w5 hb; replace HB := hbS hb; clear hb; (try simp only [errW_none, errW_some])))
 go_ret
 exact ⟨reT, hbT⟩
end Go.Proofs.Ytnlbfomlfhigcaa.Q
namespace Go.Proofs.Ytnlbfomlfhigcaa.Q
open Go.RowKit Go.Proofs.YtnlbfomlfhigcaaW.PrintWords Go.Proofs.YtnlbfomlfhigcaaW.PrintLast Go.Proofs.YtnlbfomlfhigcaaW.PrintMore
attribute [local go_sem] max2_int min2_int max_two min_two max_three min_three max_four min_four
set_option linter.unusedVariables false
set_option linter.unusedSimpArgs false
def gen_P64_44.f (k : Nat) (a0 : Int) : Option (Int) := (gen_P64_22.f k).bind fun t509 => ((gen_P64_22.f k).bind fun t510 => ((gen_Convert.f k t509 t510 a0).bind fun bt511 => (some bt511.1)))
set_option maxHeartbeats 8000000 in
set_option maxRecDepth 100000 in
theorem gen_P64_44.calls (k : Nat) (a0 : Int) (r : Int) (w : World) (h : gen_P64_44.f k a0 = some r) :
  Calls Try.prog 44 #[.int .u64 a0] w fun e w' => e = .returned (.int .u64 r) ∧ Below w.heap.size w w' := by
 have HB := Aside0.mk (Below.refl w.heap.size w)
 have H := h
 clear h
 unfold gen_P64_44.f at H
 replace H := Option.bind_eq_some_iff.mp H
 obtain ⟨t509, A20, H⟩ := H
 try dsimp only at H
 have A2 := Aside0.mk A20
 clear A20
 replace H := Option.bind_eq_some_iff.mp H
 obtain ⟨t510, A30, H⟩ := H
 try dsimp only at H
 have A3 := Aside0.mk A30
 clear A30
 replace H := Option.bind_eq_some_iff.mp H
 obtain ⟨⟨t511, t512⟩, A40, H⟩ := H
 try dsimp only at H
 have A4 := Aside0.mk A40
 clear A40
 obtain rfl := Option.some.inj H
 go_enter Try.func44, Try.ntmps44
 go_wp2_with (first | ((with_reducible refine gate_callee (f := 22) rfl ?_); refine goesL_ (some 6) rfl rfl Try.func22 (by kernel_rfl) rfl #[] rfl (by (try simp only [List.map_toArray, List.map_cons, List.map_nil]); first | done | rfl | (simp only [List.length_drop, List.length_take]; rfl)) ?_; (with_reducible refine (gen_P64_22.calls k  t509 _ A2.out).mono ?_); rintro e w' ⟨rfl, ⟨nd, rfl⟩⟩; refine ⟨_, rfl, ?_⟩) | ((with_reducible refine gate_callee (f := 22) rfl ?_); refine goesL_ (some 7) rfl rfl Try.func22 (by kernel_rfl) rfl #[] rfl (by (try simp only [List.map_toArray, List.map_cons, List.map_nil]); first | done | rfl | (simp only [List.length_drop, List.length_take]; rfl)) ?_; (with_reducible refine (gen_P64_22.calls k  t510 _ A3.out).mono ?_); rintro e w' ⟨rfl, ⟨nd, rfl⟩⟩; refine ⟨_, rfl, ?_⟩) | ((with_reducible refine gate_callee (f := 45) rfl ?_); refine goA (some 9) Try.func45 (gen_Convert.calls k t509 t510 a0 t511 t512 _ A4.out) ?_; intro w5 hb; replace HB := hbS hb; clear hb; (try simp only [errW_none, errW_some])))
 go_ret
 exact ⟨reT, hbT⟩
end Go.Proofs.Ytnlbfomlfhigcaa.Q
