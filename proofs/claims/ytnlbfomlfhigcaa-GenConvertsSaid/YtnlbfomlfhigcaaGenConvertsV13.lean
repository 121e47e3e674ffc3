/- Walks and plain laws that the claim stands on: each theorem named calls says that a call of a function returns what its f computes; the others are plain laws of these f, and the words that the walks use. -/
import Derived.Test.YtnlbfomlfhigcaaGenConvertsV2
namespace Go.Proofs.Ytnlbfomlfhigcaa.Q
open Go.RowKit Go.Proofs.YtnlbfomlfhigcaaW.PrintWords Go.Proofs.YtnlbfomlfhigcaaW.PrintLast Go.Proofs.YtnlbfomlfhigcaaW.PrintMore
attribute [local go_sem] max2_int min2_int max_two min_two max_three min_three max_four min_four
set_option linter.unusedVariables false
set_option linter.unusedSimpArgs false
def vernierref05_Is.f (a0 : Int) : Option (Bool) := if a0 = 8 then (some true) else (if a0 = 16 then (some true) else (if a0 = 32 then (some true) else (some (a0 == 64))))
set_option maxHeartbeats 8000000 in
set_option maxRecDepth 100000 in
theorem vernierref05_Is.calls (a0 : Int) (r : Bool) (w : World) (h : vernierref05_Is.f a0 = some r) :
  Calls Try.prog 48 #[.int .i64 a0] w fun e w' => e = .returned (.bool r) ∧ Drawn0 w w' := by
 have H := h
 clear h
 unfold vernierref05_Is.f at H
 by_cases c2 : a0 = 8
 ·rw [if_pos c2] at H
  obtain ⟨c2b0, c2b1⟩ := eqY c2
  clear c2
  obtain rfl := Option.some.inj H
  go_enter Try.func48, Try.ntmps48
  go_wp2
  go_ret
  exact ⟨okT, by repeat (first | exact Drawn0.refl _ | apply Drawn0.step)⟩
 ·rw [if_neg c2] at H
  obtain ⟨c2b0, c2b1⟩ := eqN c2
  by_cases c3 : a0 = 16
  ·rw [if_pos c3] at H
   obtain ⟨c3b0, c3b1⟩ := eqY c3
   clear c3
   obtain rfl := Option.some.inj H
   go_enter Try.func48, Try.ntmps48
   go_wp2
   go_ret
   exact ⟨okT, by repeat (first | exact Drawn0.refl _ | apply Drawn0.step)⟩
  ·rw [if_neg c3] at H
   obtain ⟨c3b0, c3b1⟩ := eqN c3
   by_cases c4 : a0 = 32
   ·rw [if_pos c4] at H
    obtain ⟨c4b0, c4b1⟩ := eqY c4
    clear c4
    obtain rfl := Option.some.inj H
    go_enter Try.func48, Try.ntmps48
    go_wp2
    go_ret
    exact ⟨okT, by repeat (first | exact Drawn0.refl _ | apply Drawn0.step)⟩
   ·rw [if_neg c4] at H
    obtain ⟨c4b0, c4b1⟩ := eqN c4
    obtain rfl := Option.some.inj H
    go_enter Try.func48, Try.ntmps48
    go_wp2
    go_ret
    exact ⟨okT, by repeat (first | exact Drawn0.refl _ | apply Drawn0.step)⟩
end Go.Proofs.Ytnlbfomlfhigcaa.Q
namespace Go.Proofs.Ytnlbfomlfhigcaa.Q
open Go.RowKit Go.Proofs.YtnlbfomlfhigcaaW.PrintWords Go.Proofs.YtnlbfomlfhigcaaW.PrintLast Go.Proofs.YtnlbfomlfhigcaaW.PrintMore
attribute [local go_sem] max2_int min2_int max_two min_two max_three min_three max_four min_four
set_option linter.unusedVariables false
set_option linter.unusedSimpArgs false
theorem eqA103 (d : Nat) (w : World) (x0 y0 : Int) (x1 y1 : Bool) (x2 y2 : Int) (x3 y3 : Int) :
    (Op.equalIn (d + 2) 103 (.agg #[.int .i64 x0, .bool x1, .int .i64 x2, .int .u64 x3]) (.agg #[.int .i64 y0, .bool y1, .int .i64 y2, .int .u64 y3])).run Try.prog w = .ok (x0 == y0 && (x1 == y1 && (x2 == y2 && (x3 == y3)))) w := by
  refine eqA_of Try.underlying103 (by kernel_rfl) ?_
  refine eqf_cons (by rfl) (by go_simp; rfl) (by go_simp; rfl) (by go_simp) ?_
  refine eqf_cons (by rfl) (by go_simp; rfl) (by go_simp; rfl) (by go_simp) ?_
  refine eqf_cons (by rfl) (by go_simp; rfl) (by go_simp; rfl) (by go_simp) ?_
  exact eqf_last (by rfl) (by go_simp; rfl) (by go_simp; rfl) (by go_simp)
end Go.Proofs.Ytnlbfomlfhigcaa.Q
namespace Go.Proofs.Ytnlbfomlfhigcaa.Q
open Go.RowKit Go.Proofs.YtnlbfomlfhigcaaW.PrintWords Go.Proofs.YtnlbfomlfhigcaaW.PrintLast Go.Proofs.YtnlbfomlfhigcaaW.PrintMore
attribute [local go_sem] max2_int min2_int max_two min_two max_three min_three max_four min_four
set_option linter.unusedVariables false
set_option linter.unusedSimpArgs false
attribute [local go_sem high] eqA103
def vernierref06_Sound.f (a0_0 : Int) (a0_1 : Bool) (a0_2 : Int) (a0_3 : Int) : Option (Bool) := if a0_0 = 0 then (some (!a0_1 && (a0_2 == 0 && (a0_3 == 0)))) else (if a0_0 = 2 then (some (!a0_1 && (a0_2 == 0 && (a0_3 == 0)))) else (if a0_0 = 1 then (if a0_3 ≥ 9223372036854775808 then (if a0_2 ≥ (-1073741824) then (some (decide (a0_2 ≤ 1073741824))) else (some false)) else (some false)) else (some false)))
set_option maxHeartbeats 8000000 in
set_option maxRecDepth 100000 in
theorem vernierref06_Sound.calls (a0_0 : Int) (a0_1 : Bool) (a0_2 : Int) (a0_3 : Int) (r : Bool) (w : World) (h : vernierref06_Sound.f a0_0 a0_1 a0_2 a0_3 = some r) :
  Calls Try.prog 105 #[.agg #[.int .i64 a0_0, .bool a0_1, .int .i64 a0_2, .int .u64 a0_3]] w fun e w' => e = .returned (.bool r) ∧ Below w.heap.size w w' := by
 have hu103 := Try.underlying103
 have HB := Aside0.mk (Below.refl w.heap.size w)
 have H := h
 clear h
 unfold vernierref06_Sound.f at H
 by_cases c2 : a0_0 = 0
 ·rw [if_pos c2] at H
  obtain ⟨c2b0, c2b1⟩ := eqY c2
  clear c2
  obtain rfl := Option.some.inj H
  go_enter Try.func105, Try.ntmps105
  go_wp2_with (first | ((with_reducible refine gate_dst (N := 1) rfl ?_); refine boxA 1 (#[.int .i64 a0_0, .bool a0_1, .int .i64 a0_2, .int .u64 a0_3]) 103 ?_; intro gb385 hg w3 BK385 hb; have GW385 := geT hg; have GE385 := GW385; replace HB := hbS hb; clear hb hg; obtain ⟨z4_0, z4_1, z4_2, z4_3, y4_0, y4_1, y4_2, y4_3⟩ := cz4 BK385))
  go_ret
  exact ⟨reT, hbT⟩
 ·rw [if_neg c2] at H
  obtain ⟨c2b0, c2b1⟩ := eqN c2
  by_cases c5 : a0_0 = 2
  ·rw [if_pos c5] at H
   obtain ⟨c5b0, c5b1⟩ := eqY c5
   clear c5
   obtain rfl := Option.some.inj H
   go_enter Try.func105, Try.ntmps105
   go_wp2_with (first | ((with_reducible refine gate_dst (N := 1) rfl ?_); refine boxA 1 (#[.int .i64 a0_0, .bool a0_1, .int .i64 a0_2, .int .u64 a0_3]) 103 ?_; intro gb385 hg w6 BK385 hb; have GW385 := geT hg; have GE385 := GW385; replace HB := hbS hb; clear hb hg; obtain ⟨z7_0, z7_1, z7_2, z7_3, y7_0, y7_1, y7_2, y7_3⟩ := cz4 BK385))
   go_ret
   exact ⟨reT, hbT⟩
  ·rw [if_neg c5] at H
   obtain ⟨c5b0, c5b1⟩ := eqN c5
   by_cases c8 : a0_0 = 1
   ·rw [if_pos c8] at H
    obtain ⟨c8b0, c8b1⟩ := eqY c8
    clear c8
    by_cases c9 : a0_3 ≥ 9223372036854775808
    ·rw [if_pos c9] at H
     have c9b0 : decide (9223372036854775808 ≤ a0_3) = true := decide_eq_true c9
     clear c9
     by_cases c10 : a0_2 ≥ (-1073741824)
     ·rw [if_pos c10] at H
      have c10b0 : decide ((-1073741824) ≤ a0_2) = true := decide_eq_true c10
      clear c10
      obtain rfl := Option.some.inj H
      go_enter Try.func105, Try.ntmps105
      go_wp2_with (first | ((with_reducible refine gate_dst (N := 1) rfl ?_); refine boxA 1 (#[.int .i64 a0_0, .bool a0_1, .int .i64 a0_2, .int .u64 a0_3]) 103 ?_; intro gb385 hg w11 BK385 hb; have GW385 := geT hg; have GE385 := GW385; replace HB := hbS hb; clear hb hg; obtain ⟨z12_0, z12_1, z12_2, z12_3, y12_0, y12_1, y12_2, y12_3⟩ := cz4 BK385))
      go_ret
      exact ⟨reT, hbT⟩
     ·rw [if_neg c10] at H
      have c10b0 : decide ((-1073741824) ≤ a0_2) = false := decide_eq_false c10
      clear c10
      obtain rfl := Option.some.inj H
      go_enter Try.func105, Try.ntmps105
      go_wp2_with (first | ((with_reducible refine gate_dst (N := 1) rfl ?_); refine boxA 1 (#[.int .i64 a0_0, .bool a0_1, .int .i64 a0_2, .int .u64 a0_3]) 103 ?_; intro gb385 hg w13 BK385 hb; have GW385 := geT hg; have GE385 := GW385; replace HB := hbS hb; clear hb hg; obtain ⟨z14_0, z14_1, z14_2, z14_3, y14_0, y14_1, y14_2, y14_3⟩ := cz4 BK385))
      go_ret
      exact ⟨reT, hbT⟩
    ·rw [if_neg c9] at H
     have c9b0 : decide (9223372036854775808 ≤ a0_3) = false := decide_eq_false c9
     clear c9
     obtain rfl := Option.some.inj H
     go_enter Try.func105, Try.ntmps105
     go_wp2_with (first | ((with_reducible refine gate_dst (N := 1) rfl ?_); refine boxA 1 (#[.int .i64 a0_0, .bool a0_1, .int .i64 a0_2, .int .u64 a0_3]) 103 ?_; intro gb385 hg w15 BK385 hb; have GW385 := geT hg; have GE385 := GW385; replace HB := hbS hb; clear hb hg; obtain ⟨z16_0, z16_1, z16_2, z16_3, y16_0, y16_1, y16_2, y16_3⟩ := cz4 BK385))
     go_ret
     exact ⟨reT, hbT⟩
   ·rw [if_neg c8] at H
    obtain ⟨c8b0, c8b1⟩ := eqN c8
    obtain rfl := Option.some.inj H
    go_enter Try.func105, Try.ntmps105
    go_wp2_with (first | ((with_reducible refine gate_dst (N := 1) rfl ?_); refine boxA 1 (#[.int .i64 a0_0, .bool a0_1, .int .i64 a0_2, .int .u64 a0_3]) 103 ?_; intro gb385 hg w17 BK385 hb; have GW385 := geT hg; have GE385 := GW385; replace HB := hbS hb; clear hb hg; obtain ⟨z18_0, z18_1, z18_2, z18_3, y18_0, y18_1, y18_2, y18_3⟩ := cz4 BK385))
    go_ret
    exact ⟨reT, hbT⟩
end Go.Proofs.Ytnlbfomlfhigcaa.Q
namespace Go.Proofs.Ytnlbfomlfhigcaa.Q
open Go.RowKit Go.Proofs.YtnlbfomlfhigcaaW.PrintWords Go.Proofs.YtnlbfomlfhigcaaW.PrintLast Go.Proofs.YtnlbfomlfhigcaaW.PrintMore
attribute [local go_sem] max2_int min2_int max_two min_two max_three min_three max_four min_four
set_option linter.unusedVariables false
set_option linter.unusedSimpArgs false
def vernierref07_Of.f (a0_0 : Int) (a0_1 : Bool) (a0_2 : Int) (a0_3 : Int) : Option (Int × Bool × Int × Int × Int × Bool × Int) := (vernierref06_Sound.f a0_0 a0_1 a0_2 a0_3).bind fun t388 => (if t388 = true then (some (a0_0, a0_1, a0_2, a0_3, 0, false, 0)) else (some (0, false, 0, 0, 0, false, 1)))
set_option maxHeartbeats 8000000 in
set_option maxRecDepth 100000 in
theorem vernierref07_Of.calls (a0_0 : Int) (a0_1 : Bool) (a0_2 : Int) (a0_3 : Int) (r1 : Int) (r2 : Bool) (r3 : Int) (r4 : Int) (r5 : Int) (r6 : Bool) (r7 : Int) (w : World) (h : vernierref07_Of.f a0_0 a0_1 a0_2 a0_3 = some (r1, r2, r3, r4, r5, r6, r7)) :
  Calls Try.prog 83 #[.agg #[.int .i64 a0_0, .bool a0_1, .int .i64 a0_2, .int .u64 a0_3]] w fun e w' => e = .returned (.tuple #[.agg #[.int .i64 r1, .bool r2, .int .i64 r3, .int .u64 r4, .int .u64 r5, .bool r6], .int .i64 r7]) ∧ Below w.heap.size w w' := by
 have hu103 := Try.underlying103
 have hu86 := Try.underlying86
 have HB := Aside0.mk (Below.refl w.heap.size w)
 have H := h
 clear h
 unfold vernierref07_Of.f at H
 replace H := Option.bind_eq_some_iff.mp H
 obtain ⟨t388, A20, H⟩ := H
 try dsimp only at H
 have A2 := Aside0.mk A20
 clear A20
 by_cases c3 : t388 = true
 ·subst c3
  rw [if_pos rfl] at H
  simp only [Option.some.injEq, Prod.mk.injEq] at H
  obtain ⟨rfl, rfl, rfl, rfl, rfl, rfl, rfl⟩ := H
  go_enter Try.func83, Try.ntmps83
  go_wp2_with (first | ((with_reducible refine gate_dst (N := 1) rfl ?_); refine boxA 1 (#[.int .i64 a0_0, .bool a0_1, .int .i64 a0_2, .int .u64 a0_3]) 103 ?_; intro gb386 hg w4 BK386 hb; have GW386 := geT hg; have GE386 := GW386; replace HB := hbS hb; clear hb hg) | ((with_reducible refine gate_dst (N := 2) rfl ?_); refine boxA 2 (#[.int .i64 0, .bool false, .int .i64 0, .int .u64 0, .int .u64 0, .bool false]) 86 ?_; intro gb387 hg w5 BK387 hb; have GW387 := geT hg; have GE387 := GW387; obtain ⟨NB386_387, NB387_386⟩ := neT BK386 hg; replace BK386 := bkB BK386 hb; replace HB := hbS hb; clear hb hg; have hnb6 := NB386_387.out; have hnc6 := NB387_386.out; obtain ⟨z7_0, z7_1, z7_2, z7_3, y7_0, y7_1, y7_2, y7_3⟩ := cz4 BK386) | ((with_reducible refine gate_callee (f := 105) rfl ?_); refine goA (some 6) Try.func105 (vernierref06_Sound.calls a0_0 a0_1 a0_2 a0_3 true _ A2.out) ?_; intro w8 hb; replace BK386 := bkB BK386 hb; replace BK387 := bkB BK387 hb; replace HB := hbS hb; clear hb; obtain ⟨z9_0, z9_1, z9_2, z9_3, y9_0, y9_1, y9_2, y9_3⟩ := cz4 BK386; obtain ⟨z10_0, z10_1, z10_2, z10_3, z10_4, z10_5, y10_0, y10_1, y10_2, y10_3, y10_4, y10_5⟩ := cz6 BK387))
  refine bodyPost_ret (results_ct rfl _ _ gb387 86 #[.int .i64 a0_0, .bool a0_1, .int .i64 a0_2, .int .u64 a0_3, .int .u64 0, .bool false] (0, 0) _ rfl (bkT BK387) Try.underlying86 rfl (by kernel_rfl)) rfl ?_
  exact ⟨reT, hbT⟩
 ·replace c3 := Bool.eq_false_iff.mpr c3
  subst c3
  rw [if_neg (show ¬ (false = true) by decide)] at H
  simp only [Option.some.injEq, Prod.mk.injEq] at H
  obtain ⟨rfl, rfl, rfl, rfl, rfl, rfl, rfl⟩ := H
  go_enter Try.func83, Try.ntmps83
  go_wp2_with (first | ((with_reducible refine gate_dst (N := 1) rfl ?_); refine boxA 1 (#[.int .i64 a0_0, .bool a0_1, .int .i64 a0_2, .int .u64 a0_3]) 103 ?_; intro gb386 hg w11 BK386 hb; have GW386 := geT hg; have GE386 := GW386; replace HB := hbS hb; clear hb hg) | ((with_reducible refine gate_dst (N := 2) rfl ?_); refine boxA 2 (#[.int .i64 0, .bool false, .int .i64 0, .int .u64 0, .int .u64 0, .bool false]) 86 ?_; intro gb387 hg w12 BK387 hb; have GW387 := geT hg; have GE387 := GW387; obtain ⟨NB386_387, NB387_386⟩ := neT BK386 hg; replace BK386 := bkB BK386 hb; replace HB := hbS hb; clear hb hg; have hnb13 := NB386_387.out; have hnc13 := NB387_386.out; obtain ⟨z14_0, z14_1, z14_2, z14_3, y14_0, y14_1, y14_2, y14_3⟩ := cz4 BK386) | ((with_reducible refine gate_callee (f := 105) rfl ?_); refine goA (some 6) Try.func105 (vernierref06_Sound.calls a0_0 a0_1 a0_2 a0_3 false _ A2.out) ?_; intro w15 hb; replace BK386 := bkB BK386 hb; replace BK387 := bkB BK387 hb; replace HB := hbS hb; clear hb; obtain ⟨z16_0, z16_1, z16_2, z16_3, z16_4, z16_5, y16_0, y16_1, y16_2, y16_3, y16_4, y16_5⟩ := cz6 BK387))
  refine bodyPost_ret (results_ct rfl _ _ gb387 86 #[.int .i64 0, .bool false, .int .i64 0, .int .u64 0, .int .u64 0, .bool false] (0, 0) _ rfl (bkT BK387) Try.underlying86 rfl (by kernel_rfl)) rfl ?_
  exact ⟨reT, hbT⟩
end Go.Proofs.Ytnlbfomlfhigcaa.Q
namespace Go.Proofs.Ytnlbfomlfhigcaa.Q
open Go.RowKit Go.Proofs.YtnlbfomlfhigcaaW.PrintWords Go.Proofs.YtnlbfomlfhigcaaW.PrintLast Go.Proofs.YtnlbfomlfhigcaaW.PrintMore
attribute [local go_sem] max2_int min2_int max_two min_two max_three min_three max_four min_four
set_option linter.unusedVariables false
set_option linter.unusedSimpArgs false
def vernierref01_Number.l0 : Nat → ByteArray → Int → Int → Option (Int)
 | 0, _, _, _ => none
 | k + 1, x0, x3, x4 => if x4 < (x0.size : Int) then (if 0 ≤ x4 then (vernierref01_Number.l0 k x0 (IntKind.u64.wrap ((IntKind.u64.wrap (2 * x3)) + (((bt x0 x4) - 48) % 256))) (wrap64 (x4 + 1))) else (none)) else (some x3)
def vernierref01_Number.f (k : Nat) (a0 : ByteArray) : Option (Int) := vernierref01_Number.l0 k a0 0 0
set_option maxHeartbeats 8000000 in
set_option maxRecDepth 100000 in
theorem vernierref01_Number.calls (k : Nat) (a0 : ByteArray) (r : Int) (w : World) (h : vernierref01_Number.f k a0 = some r) :
  Calls Try.prog 109 #[.string a0] w fun e w' => e = .returned (.int .u64 r) ∧ Drawn0 w w' := by
 have H := h
 clear h
 unfold vernierref01_Number.f at H
 have H' := Aside0.mk H
 clear H
 go_enter Try.func109, Try.ntmps109
 go_wp2
 go_loopg [3, 4] k (fun kq v3 v4 w' => ∃ (x3_1 : Int) (x4_1 : Int), v3 = .int .u64 x3_1 ∧ v4 = .int .i64 x4_1 ∧ Aside0 (vernierref01_Number.l0 kq a0 x3_1 x4_1 = some r) ∧ Aside0 (kq ≤ k) ∧ Drawn0 w w')
 case atStart => exact ⟨(0), (0), okT, okT, H', ⟨Nat.le_refl _⟩, by repeat (first | exact Drawn0.refl _ | apply Drawn0.step)⟩
 case round =>
  clear H'
  obtain ⟨x3_1, x4_1, rfl, rfl, HA, HK1, ⟨m1, rfl⟩⟩ := hrel
  cases gk with
  | zero => exact absurd HA.out (by simp [vernierref01_Number.l0])
  | succ k1 =>
   have H := HA.out
   clear HA
   simp only [vernierref01_Number.l0] at H
   by_cases c2 : x4_1 < (a0.size : Int)
   ·rw [if_pos c2] at H
    have c2b0 : decide (x4_1 < (a0.size : Int)) = true := decide_eq_true c2
    clear c2
    by_cases c3 : 0 ≤ x4_1
    ·rw [if_pos c3] at H
     have c3b0 : decide (0 ≤ x4_1) = true := decide_eq_true c3
     clear c3
     have H' := Aside0.mk H
     clear H
     have p4 : 0 ≤ (x4_1 : Int) := of_decide_eq_true (by first | (with_reducible assumption) | assumption)
     have q4 : x4_1 < (a0.size : Int) := of_decide_eq_true (by first | (with_reducible assumption) | assumption)
     have hx4 := bt_at a0 x4_1
     replace p4 := eq_true p4
     replace q4 := eq_true q4
     go_wp2
     go_roundg k1
     case measure => have := HK1.out; omega
     case rel => exact ⟨(IntKind.u64.wrap ((IntKind.u64.wrap (2 * x3_1)) + (((bt a0 x4_1) - 48) % 256))), (wrap64 (x4_1 + 1)), okT, okT, H', ⟨by have := HK1.out; omega⟩, by repeat (first | exact Drawn0.refl _ | apply Drawn0.step)⟩
    ·rw [if_neg c3] at H
     exact absurd H (by simp)
   ·rw [if_neg c2] at H
    have c2b0 : decide (x4_1 < (a0.size : Int)) = false := decide_eq_false c2
    clear c2
    obtain rfl := Option.some.inj H
    go_wp2
    go_ret
    exact ⟨okT, by repeat (first | exact Drawn0.refl _ | apply Drawn0.step)⟩
end Go.Proofs.Ytnlbfomlfhigcaa.Q
namespace Go.Proofs.Ytnlbfomlfhigcaa.Q
open Go.RowKit Go.Proofs.YtnlbfomlfhigcaaW.PrintWords Go.Proofs.YtnlbfomlfhigcaaW.PrintLast Go.Proofs.YtnlbfomlfhigcaaW.PrintMore
attribute [local go_sem] max2_int min2_int max_two min_two max_three min_three max_four min_four
set_option linter.unusedVariables false
set_option linter.unusedSimpArgs false
def vernierref01_Text.l0 : Nat → Int → List Int → Int → Option (ByteArray)
 | 0, _, _, _ => none
 | k + 1, x0, x5, x6 => if x6 ≥ 0 then (if 0 ≤ x6 then (if x5.length < 140737488355328 then (vernierref01_Text.l0 k x0 (x5 ++ [(48 + (Int.tmod (shr .u64 x0 x6) 2)) % 256]) (wrap64 (x6 - 1))) else (none)) else (none)) else (some (strOfNums x5))
def vernierref01_Text.f (k : Nat) (a0 : Int) (a1 : Int) : Option (ByteArray) := vernierref01_Text.l0 k a0 ([] : List Int) (wrap64 (a1 - 1))
set_option maxHeartbeats 8000000 in
set_option maxRecDepth 100000 in
theorem vernierref01_Text.calls (k : Nat) (a0 : Int) (a1 : Int) (r : ByteArray) (w : World) (h : vernierref01_Text.f k a0 a1 = some r) :
  Calls Try.prog 110 #[.int .u64 a0, .int .i64 a1] w fun e w' => e = .returned (.string r) ∧ Below w.heap.size w w' := by
 have HB := Aside0.mk (Below.refl w.heap.size w)
 have H := h
 clear h
 unfold vernierref01_Text.f at H
 have H' := Aside0.mk H
 clear H
 go_enter Try.func110, Try.ntmps110
 go_wp2
 go_loopg [5, 6] k (fun kq v5 v6 w' => ∃ (x5_1 : List Int) (x6_1 : Int), v6 = .int .i64 x6_1 ∧ Aside0 (vernierref01_Text.l0 kq a0 x5_1 x6_1 = some r) ∧ Aside0 (kq ≤ k) ∧ Aside0 (Kd.R (Kd.int .u8) 5 w' w.heap.size (fun _ => True) v5 x5_1) ∧ Aside0 (Below w.heap.size w w'))
 case atStart => exact ⟨(([] : List Int)), (wrap64 (a1 - 1)), okT, H', ⟨Nat.le_refl _⟩, ⟨by first | exact Kd.R_nil _ _ _ _ _ | exact Kd.N_nil _ _ _ _ _ | exact Kd.V_nil _ _ _ _ _ | exact Kd.Q_nil _ _ _ _ _ | exact Kd.S_nil _ _ _ _ _⟩, ⟨hbT⟩⟩
 case round =>
  clear H'
  obtain ⟨x5_1, x6_1, rfl, HA, HK1, HO_5, HB⟩ := hrel
  cases gk with
  | zero => exact absurd HA.out (by simp [vernierref01_Text.l0])
  | succ k1 =>
   have H := HA.out
   clear HA
   simp only [vernierref01_Text.l0] at H
   by_cases c3 : x6_1 ≥ 0
   ·rw [if_pos c3] at H
    have c3b0 : decide (0 ≤ x6_1) = true := decide_eq_true c3
    clear c3
    by_cases c4 : 0 ≤ x6_1
    ·rw [if_pos c4] at H
     have c4b0 := eq_true c4
     have c4b1 : decide (0 ≤ x6_1) = true := decide_eq_true c4
     clear c4
     obtain ⟨ji5, hji5⟩ : ∃ j_ : Int, (shr .u64 a0 x6_1) = j_ := ⟨_, rfl⟩
     replace H : (if x5_1.length < 140737488355328 then (vernierref01_Text.l0 k1 a0 (x5_1 ++ [(48 + (Int.tmod (ji5) 2)) % 256]) (wrap64 (x6_1 - 1))) else (none)) = some r := by first | (rw [hji5] at H; exact H) | (simp only [hji5] at H ⊢; exact H)
     have hji5_ : (a0 / 2 ^ min x6_1.toNat 64) = ji5 := hji5
     have hji5z : x6_1 ≤ 64 → (a0 / 2 ^ x6_1.toNat) = ji5 := shr_small hji5
     by_cases c6 : x5_1.length < 140737488355328
     ·rw [if_pos c6] at H
      have LMc6 := Aside0.mk c6
      clear c6
      obtain ⟨y389, hy389⟩ : ∃ y_ : List Int, y_ = (x5_1 ++ [(48 + (Int.tmod (ji5) 2)) % 256]) := ⟨_, rfl⟩
      replace H : (vernierref01_Text.l0 k1 a0 y389 (wrap64 (x6_1 - 1))) = some r := by first | (rw [hy389]; with_reducible exact H) | (have H2_ := (Option.bind_some _ _).symm.trans H; rw [hy389]; with_reducible exact H2_) | (have H2_ := (Option.bind_some _ _).symm.trans H; with_reducible exact H2_) | with_reducible exact H | (rw [hy389]; exact H) | exact H
      have Ny389 := Aside0.mk hy389
      clear hy389
      have H' := Aside0.mk H
      clear H
      go_wp2_with (first | ((with_reducible refine gate_builtin (b := .append) (xs := #[.tmp 13, .tmp 20]) rfl ?_); at_builtin; refine Kd.R_append (Kd.int .u8) (w0 := w) w.heap.size rfl (.tmp 13) (.tmp 20) 184 5 (.int .u8 0) 1 rfl Try.underlying184 info5 rfl (by decide) (by omega) u5 x5_1 ((48 + (Int.tmod (ji5) 2)) % 256) [.int .u8 ((48 + (Int.tmod (ji5) 2)) % 256)] (fun _ => True) (fun _ => False) rfl rfl ?aP (fun _ hk => hk.elim) ?aF ?aO ?aB ?aS ?aL ?_; (case aP => exact rfl); (case aB => exact hbT); (case aF => exact (fun _ _ => trivial)); (case aO => exact (by (with_reducible repeat (first | apply Kd.R_alloc | apply Kd.R_drewN | apply Kd.R_drew)); exact HO_5.out)); (case aS => exact (below_size hbT)); (case aL => have := LMc6.out; omega); intro v390 w7 ho hb hg hat; rw [← Ny389.out] at ho; have HO391 := Aside0.mk (ho); replace HB := Aside0.mk (hb); clear ho hb hg hat))
      go_roundg k1
      case measure => have := HK1.out; omega
      case rel => exact ⟨(y389), (wrap64 (x6_1 - 1)), okT, H', ⟨by have := HK1.out; omega⟩, ⟨by (with_reducible repeat (first | apply Kd.R_alloc | apply Kd.R_drewN | apply Kd.R_drew)); exact HO391.out⟩, ⟨hbT⟩⟩
     ·rw [if_neg c6] at H
      exact absurd H (by simp)
    ·rw [if_neg c4] at H
     exact absurd H (by simp)
   ·rw [if_neg c3] at H
    have c3b0 : decide (0 ≤ x6_1) = false := decide_eq_false c3
    clear c3
    obtain rfl := Option.some.inj H
    have hcv8 := own_string (P := Try.prog) Try.underlying184 Try.underlying5 Try.underlying9 (Kd.own_of_R HO_5.out)
    go_wp2
    go_ret
    exact ⟨reT, hbT⟩
end Go.Proofs.Ytnlbfomlfhigcaa.Q
namespace Go.Proofs.Ytnlbfomlfhigcaa.Q
open Go.RowKit Go.Proofs.YtnlbfomlfhigcaaW.PrintWords Go.Proofs.YtnlbfomlfhigcaaW.PrintLast Go.Proofs.YtnlbfomlfhigcaaW.PrintMore
attribute [local go_sem] max2_int min2_int max_two min_two max_three min_three max_four min_four
set_option linter.unusedVariables false
set_option linter.unusedSimpArgs false
def vernierref05_Power.l0 : Nat → Int → Int → Int → Option (Int)
 | 0, _, _, _ => none
 | k + 1, x0, x3, x4 => if x4 < x0 then (vernierref05_Power.l0 k x0 (IntKind.u64.wrap (2 * x3)) (wrap64 (x4 + 1))) else (some x3)
def vernierref05_Power.f (k : Nat) (a0 : Int) : Option (Int) := vernierref05_Power.l0 k a0 1 0
set_option maxHeartbeats 8000000 in
set_option maxRecDepth 100000 in
theorem vernierref05_Power.calls (k : Nat) (a0 : Int) (r : Int) (w : World) (h : vernierref05_Power.f k a0 = some r) :
  Calls Try.prog 53 #[.int .i64 a0] w fun e w' => e = .returned (.int .u64 r) ∧ Drawn0 w w' := by
 have H := h
 clear h
 unfold vernierref05_Power.f at H
 have H' := Aside0.mk H
 clear H
 go_enter Try.func53, Try.ntmps53
 go_wp2
 go_loopg [3, 4] k (fun kq v3 v4 w' => ∃ (x3_1 : Int) (x4_1 : Int), v3 = .int .u64 x3_1 ∧ v4 = .int .i64 x4_1 ∧ Aside0 (vernierref05_Power.l0 kq a0 x3_1 x4_1 = some r) ∧ Aside0 (kq ≤ k) ∧ Drawn0 w w')
 case atStart => exact ⟨(1), (0), okT, okT, H', ⟨Nat.le_refl _⟩, by repeat (first | exact Drawn0.refl _ | apply Drawn0.step)⟩
 case round =>
  clear H'
  obtain ⟨x3_1, x4_1, rfl, rfl, HA, HK1, ⟨m1, rfl⟩⟩ := hrel
  cases gk with
  | zero => exact absurd HA.out (by simp [vernierref05_Power.l0])
  | succ k1 =>
   have H := HA.out
   clear HA
   simp only [vernierref05_Power.l0] at H
   by_cases c2 : x4_1 < a0
   ·rw [if_pos c2] at H
    have c2b0 : decide (x4_1 < a0) = true := decide_eq_true c2
    clear c2
    have H' := Aside0.mk H
    clear H
    go_wp2
    go_roundg k1
    case measure => have := HK1.out; omega
    case rel => exact ⟨(IntKind.u64.wrap (2 * x3_1)), (wrap64 (x4_1 + 1)), okT, okT, H', ⟨by have := HK1.out; omega⟩, by repeat (first | exact Drawn0.refl _ | apply Drawn0.step)⟩
   ·rw [if_neg c2] at H
    have c2b0 : decide (x4_1 < a0) = false := decide_eq_false c2
    clear c2
    obtain rfl := Option.some.inj H
    go_wp2
    go_ret
    exact ⟨okT, by repeat (first | exact Drawn0.refl _ | apply Drawn0.step)⟩
end Go.Proofs.Ytnlbfomlfhigcaa.Q
namespace Go.Proofs.Ytnlbfomlfhigcaa.Q
open Go.RowKit Go.Proofs.YtnlbfomlfhigcaaW.PrintWords Go.Proofs.YtnlbfomlfhigcaaW.PrintLast Go.Proofs.YtnlbfomlfhigcaaW.PrintMore
attribute [local go_sem] max2_int min2_int max_two min_two max_three min_three max_four min_four
set_option linter.unusedVariables false
set_option linter.unusedSimpArgs false
def vernierref05_Fold.f (k : Nat) (a0 : Int) (a1 : Int) : Option (Int × Int) := (vernierref05_Is.f a0).bind fun t392 => (if t392 = true then ((vernierref01_Text.f k a1 a0).bind fun t393 => ((vernierref01_Number.f k t393).bind fun t394 => (some (t394, 0)))) else (some (0, 2)))
set_option maxHeartbeats 8000000 in
set_option maxRecDepth 100000 in
theorem vernierref05_Fold.calls (k : Nat) (a0 : Int) (a1 : Int) (r1 : Int) (r2 : Int) (w : World) (h : vernierref05_Fold.f k a0 a1 = some (r1, r2)) :
  Calls Try.prog 89 #[.int .i64 a0, .int .u64 a1] w fun e w' => e = .returned (.tuple #[.int .u64 r1, .int .i64 r2]) ∧ Below w.heap.size w w' := by
 have HB := Aside0.mk (Below.refl w.heap.size w)
 have H := h
 clear h
 unfold vernierref05_Fold.f at H
 replace H := Option.bind_eq_some_iff.mp H
 obtain ⟨t392, A30, H⟩ := H
 try dsimp only at H
 have A3 := Aside0.mk A30
 clear A30
 by_cases c4 : t392 = true
 ·subst c4
  rw [if_pos rfl] at H
  replace H := Option.bind_eq_some_iff.mp H
  obtain ⟨t393, A50, H⟩ := H
  try dsimp only at H
  have A5 := Aside0.mk A50
  clear A50
  replace H := Option.bind_eq_some_iff.mp H
  obtain ⟨t394, A60, H⟩ := H
  try dsimp only at H
  have A6 := Aside0.mk A60
  clear A60
  simp only [Option.some.injEq, Prod.mk.injEq] at H
  obtain ⟨rfl, rfl⟩ := H
  go_enter Try.func89, Try.ntmps89
  go_wp2_with (first | ((with_reducible refine gate_callee (f := 48) rfl ?_); refine goesL_ (some 8) rfl rfl Try.func48 (by kernel_rfl) rfl #[.int .i64 a0] rfl (by (try simp only [List.map_toArray, List.map_cons, List.map_nil]); first | done | rfl | (simp only [List.length_drop, List.length_take]; rfl)) ?_; (with_reducible refine (vernierref05_Is.calls a0 true _ A3.out).mono ?_); rintro e w' ⟨rfl, ⟨nd, rfl⟩⟩; refine ⟨_, rfl, ?_⟩) | ((with_reducible refine gate_callee (f := 110) rfl ?_); refine goA (some 13) Try.func110 (vernierref01_Text.calls k a1 a0 t393 _ A5.out) ?_; intro w7 hb; replace HB := hbS hb; clear hb) | ((with_reducible refine gate_callee (f := 109) rfl ?_); refine goesL_ (some 14) rfl rfl Try.func109 (by kernel_rfl) rfl #[.string t393] rfl (by (try simp only [List.map_toArray, List.map_cons, List.map_nil]); first | done | rfl | (simp only [List.length_drop, List.length_take]; rfl)) ?_; (with_reducible refine (vernierref01_Number.calls k t393 t394 _ A6.out).mono ?_); rintro e w' ⟨rfl, ⟨nd, rfl⟩⟩; refine ⟨_, rfl, ?_⟩))
  go_ret2
  exact ⟨reT, hbT⟩
 ·replace c4 := Bool.eq_false_iff.mpr c4
  subst c4
  rw [if_neg (show ¬ (false = true) by decide)] at H
  simp only [Option.some.injEq, Prod.mk.injEq] at H
  obtain ⟨rfl, rfl⟩ := H
  go_enter Try.func89, Try.ntmps89
  go_wp2_with (first | ((with_reducible refine gate_callee (f := 48) rfl ?_); refine goesL_ (some 8) rfl rfl Try.func48 (by kernel_rfl) rfl #[.int .i64 a0] rfl (by (try simp only [List.map_toArray, List.map_cons, List.map_nil]); first | done | rfl | (simp only [List.length_drop, List.length_take]; rfl)) ?_; (with_reducible refine (vernierref05_Is.calls a0 false _ A3.out).mono ?_); rintro e w' ⟨rfl, ⟨nd, rfl⟩⟩; refine ⟨_, rfl, ?_⟩))
  go_ret2
  exact ⟨reT, hbT⟩
end Go.Proofs.Ytnlbfomlfhigcaa.Q
namespace Go.Proofs.Ytnlbfomlfhigcaa.Q
open Go.RowKit Go.Proofs.YtnlbfomlfhigcaaW.PrintWords Go.Proofs.YtnlbfomlfhigcaaW.PrintLast Go.Proofs.YtnlbfomlfhigcaaW.PrintMore
attribute [local go_sem] max2_int min2_int max_two min_two max_three min_three max_four min_four
set_option linter.unusedVariables false
set_option linter.unusedSimpArgs false
def vernierref05_Kind.f (k : Nat) (a0 : Int) (a1 : Int) : Option (Int × Int) := (vernierref05_Fold.f k a0 a1).bind fun bt395 => (if bt395.2 = 0 then (if bt395.1 = 0 then (some (0, 0)) else ((vernierref05_Power.f k (wrap64 (a0 - 1))).bind fun t397 => (if bt395.1 = t397 then (some (2, 0)) else (some (1, 0))))) else (some (0, bt395.2)))
set_option maxHeartbeats 8000000 in
set_option maxRecDepth 100000 in
theorem vernierref05_Kind.calls (k : Nat) (a0 : Int) (a1 : Int) (r1 : Int) (r2 : Int) (w : World) (h : vernierref05_Kind.f k a0 a1 = some (r1, r2)) :
  Calls Try.prog 132 #[.int .i64 a0, .int .u64 a1] w fun e w' => e = .returned (.tuple #[.int .i64 r1, .int .i64 r2]) ∧ Below w.heap.size w w' := by
 have HB := Aside0.mk (Below.refl w.heap.size w)
 have H := h
 clear h
 unfold vernierref05_Kind.f at H
 replace H := Option.bind_eq_some_iff.mp H
 obtain ⟨⟨t395, t396⟩, A30, H⟩ := H
 try dsimp only at H
 have A3 := Aside0.mk A30
 clear A30
 by_cases c4 : t396 = 0
 ·rw [if_pos c4] at H
  obtain ⟨c4b0, c4b1⟩ := eqY c4
  clear c4
  by_cases c5 : t395 = 0
  ·rw [if_pos c5] at H
   obtain ⟨c5b0, c5b1⟩ := eqY c5
   clear c5
   simp only [Option.some.injEq, Prod.mk.injEq] at H
   obtain ⟨rfl, rfl⟩ := H
   go_enter Try.func132, Try.ntmps132
   go_wp2_with (first | ((with_reducible refine gate_callee (f := 89) rfl ?_); refine goA (some 11) Try.func89 (vernierref05_Fold.calls k a0 a1 t395 t396 _ A3.out) ?_; intro w6 hb; replace HB := hbS hb; clear hb))
   go_ret2
   exact ⟨reT, hbT⟩
  ·rw [if_neg c5] at H
   obtain ⟨c5b0, c5b1⟩ := eqN c5
   replace H := Option.bind_eq_some_iff.mp H
   obtain ⟨t397, A70, H⟩ := H
   try dsimp only at H
   have A7 := Aside0.mk A70
   clear A70
   by_cases c8 : t395 = t397
   ·rw [if_pos c8] at H
    obtain ⟨c8b0, c8b1⟩ := eqY c8
    clear c8
    simp only [Option.some.injEq, Prod.mk.injEq] at H
    obtain ⟨rfl, rfl⟩ := H
    go_enter Try.func132, Try.ntmps132
    go_wp2_with (first | ((with_reducible refine gate_callee (f := 89) rfl ?_); refine goA (some 11) Try.func89 (vernierref05_Fold.calls k a0 a1 t395 t396 _ A3.out) ?_; intro w9 hb; replace HB := hbS hb; clear hb) | ((with_reducible refine gate_callee (f := 53) rfl ?_); refine goesL_ (some 23) rfl rfl Try.func53 (by kernel_rfl) rfl #[.int .i64 (wrap64 (a0 - 1))] rfl (by (try simp only [List.map_toArray, List.map_cons, List.map_nil]); first | done | rfl | (simp only [List.length_drop, List.length_take]; rfl)) ?_; (with_reducible refine (vernierref05_Power.calls k (wrap64 (a0 - 1)) t397 _ A7.out).mono ?_); rintro e w' ⟨rfl, ⟨nd, rfl⟩⟩; refine ⟨_, rfl, ?_⟩))
    go_ret2
    exact ⟨reT, hbT⟩
   ·rw [if_neg c8] at H
    obtain ⟨c8b0, c8b1⟩ := eqN c8
    simp only [Option.some.injEq, Prod.mk.injEq] at H
    obtain ⟨rfl, rfl⟩ := H
    go_enter Try.func132, Try.ntmps132
    go_wp2_with (first | ((with_reducible refine gate_callee (f := 89) rfl ?_); refine goA (some 11) Try.func89 (vernierref05_Fold.calls k a0 a1 t395 t396 _ A3.out) ?_; intro w10 hb; replace HB := hbS hb; clear hb) | ((with_reducible refine gate_callee (f := 53) rfl ?_); refine goesL_ (some 23) rfl rfl Try.func53 (by kernel_rfl) rfl #[.int .i64 (wrap64 (a0 - 1))] rfl (by (try simp only [List.map_toArray, List.map_cons, List.map_nil]); first | done | rfl | (simp only [List.length_drop, List.length_take]; rfl)) ?_; (with_reducible refine (vernierref05_Power.calls k (wrap64 (a0 - 1)) t397 _ A7.out).mono ?_); rintro e w' ⟨rfl, ⟨nd, rfl⟩⟩; refine ⟨_, rfl, ?_⟩))
    go_ret2
    exact ⟨reT, hbT⟩
 ·rw [if_neg c4] at H
  obtain ⟨c4b0, c4b1⟩ := eqN c4
  simp only [Option.some.injEq, Prod.mk.injEq] at H
  obtain ⟨rfl, rfl⟩ := H
  go_enter Try.func132, Try.ntmps132
  go_wp2_with (first | ((with_reducible refine gate_callee (f := 89) rfl ?_); refine goA (some 11) Try.func89 (vernierref05_Fold.calls k a0 a1 t395 t396 _ A3.out) ?_; intro w11 hb; replace HB := hbS hb; clear hb))
  go_ret2
  exact ⟨reT, hbT⟩
end Go.Proofs.Ytnlbfomlfhigcaa.Q
namespace Go.Proofs.Ytnlbfomlfhigcaa.Q
open Go.RowKit Go.Proofs.YtnlbfomlfhigcaaW.PrintWords Go.Proofs.YtnlbfomlfhigcaaW.PrintLast Go.Proofs.YtnlbfomlfhigcaaW.PrintMore
attribute [local go_sem] max2_int min2_int max_two min_two max_three min_three max_four min_four
set_option linter.unusedVariables false
set_option linter.unusedSimpArgs false
def vernierref06_String.f (k : Nat) (a0 : Int) (a1 : Int) : Option (ByteArray) := (vernierref01_Text.f k a1 a0).bind fun t398 => (if 0 < (t398.size : Int) then (if (bt t398 0) = 49 then ((vernierref01_Text.f k (IntKind.u64.wrap (-a1)) a0).bind fun t399 => (if 1 ≤ (t399.size : Int) then (some (t399.extract 1 t399.size)) else (none))) else (if 1 ≤ (t398.size : Int) then (some (t398.extract 1 t398.size)) else (none))) else (none))
set_option maxHeartbeats 8000000 in
set_option maxRecDepth 100000 in
theorem vernierref06_String.calls (k : Nat) (a0 : Int) (a1 : Int) (r : ByteArray) (w : World) (h : vernierref06_String.f k a0 a1 = some r) :
  Calls Try.prog 158 #[.int .i64 a0, .int .u64 a1] w fun e w' => e = .returned (.string r) ∧ Below w.heap.size w w' := by
 have HB := Aside0.mk (Below.refl w.heap.size w)
 have H := h
 clear h
 unfold vernierref06_String.f at H
 replace H := Option.bind_eq_some_iff.mp H
 obtain ⟨t398, A30, H⟩ := H
 try dsimp only at H
 have A3 := Aside0.mk A30
 clear A30
 by_cases c4 : 0 < (t398.size : Int)
 ·rw [if_pos c4] at H
  have c4b0 : decide (0 < (t398.size : Int)) = true := decide_eq_true c4
  have c4b1 : decide (0 < t398.size) = true := decide_eq_true (by omega)
  clear c4
  by_cases c6 : (bt t398 0) = 49
  ·rw [if_pos c6] at H
   obtain ⟨c6b0, c6b1⟩ := eqY c6
   clear c6
   replace H := Option.bind_eq_some_iff.mp H
   obtain ⟨t399, A70, H⟩ := H
   try dsimp only at H
   have A7 := Aside0.mk A70
   clear A70
   by_cases c8 : 1 ≤ (t399.size : Int)
   ·rw [if_pos c8] at H
    have c8b0 := eq_true c8
    have c8b1 : decide (1 ≤ (t399.size : Int)) = true := decide_eq_true c8
    clear c8
    obtain rfl := Option.some.inj H
    go_enter Try.func158, Try.ntmps158
    go_wp2_with (first | ((with_reducible refine gate_callee (f := 110) rfl ?_); refine goA (some 8) Try.func110 (vernierref01_Text.calls k a1 a0 t398 _ A3.out) ?_; intro w9 hb; replace HB := hbS hb; clear hb; have p5 : 0 ≤ (0 : Int) := (by omega); have q5 : 0 < t398.size := (by have : (0 : Int) < (t398.size : Int) := of_decide_eq_true (by first | (with_reducible assumption) | assumption); omega); have hx5 : ∀ h : 0 < t398.size, ((t398[0]'h).toNat : Int) = bt t398 0 := bt_at t398 0; clear p5; have qi5 : (0 < (t398.size : Int)) = True := eq_true (of_decide_eq_true (by first | (with_reducible assumption) | assumption)); replace q5 := eq_true q5) | ((with_reducible refine gate_callee (f := 110) rfl ?_); refine goA (some 15) Try.func110 (vernierref01_Text.calls k (IntKind.u64.wrap (-a1)) a0 t399 _ A7.out) ?_; intro w10 hb; replace HB := hbS hb; clear hb))
    go_ret
    exact ⟨reT, hbT⟩
   ·rw [if_neg c8] at H
    exact absurd H (by simp)
  ·rw [if_neg c6] at H
   obtain ⟨c6b0, c6b1⟩ := eqN c6
   by_cases c11 : 1 ≤ (t398.size : Int)
   ·rw [if_pos c11] at H
    have c11b0 := eq_true c11
    have c11b1 : decide (1 ≤ (t398.size : Int)) = true := decide_eq_true c11
    clear c11
    obtain rfl := Option.some.inj H
    go_enter Try.func158, Try.ntmps158
    go_wp2_with (first | ((with_reducible refine gate_callee (f := 110) rfl ?_); refine goA (some 8) Try.func110 (vernierref01_Text.calls k a1 a0 t398 _ A3.out) ?_; intro w12 hb; replace HB := hbS hb; clear hb; have p5 : 0 ≤ (0 : Int) := (by omega); have q5 : 0 < t398.size := (by have : (0 : Int) < (t398.size : Int) := of_decide_eq_true (by first | (with_reducible assumption) | assumption); omega); have hx5 : ∀ h : 0 < t398.size, ((t398[0]'h).toNat : Int) = bt t398 0 := bt_at t398 0; clear p5; have qi5 : (0 < (t398.size : Int)) = True := eq_true (of_decide_eq_true (by first | (with_reducible assumption) | assumption)); replace q5 := eq_true q5))
    go_ret
    exact ⟨reT, hbT⟩
   ·rw [if_neg c11] at H
    exact absurd H (by simp)
 ·rw [if_neg c4] at H
  exact absurd H (by simp)
end Go.Proofs.Ytnlbfomlfhigcaa.Q
namespace Go.Proofs.Ytnlbfomlfhigcaa.Q
open Go.RowKit Go.Proofs.YtnlbfomlfhigcaaW.PrintWords Go.Proofs.YtnlbfomlfhigcaaW.PrintLast Go.Proofs.YtnlbfomlfhigcaaW.PrintMore
attribute [local go_sem] max2_int min2_int max_two min_two max_three min_three max_four min_four
set_option linter.unusedVariables false
set_option linter.unusedSimpArgs false
def vernierref06_run.l0 : Nat → ByteArray → Int → Option (Int)
 | 0, _, _ => none
 | k + 1, x0, x3 => if x3 < (x0.size : Int) then (if 0 ≤ x3 then (if 0 < (x0.size : Int) then (if (bt x0 x3) = (bt x0 0) then (vernierref06_run.l0 k x0 (wrap64 (x3 + 1))) else (some x3)) else (none)) else (none)) else (some x3)
def vernierref06_run.f (k : Nat) (a0 : ByteArray) : Option (Int) := vernierref06_run.l0 k a0 0
set_option maxHeartbeats 8000000 in
set_option maxRecDepth 100000 in
theorem vernierref06_run.calls (k : Nat) (a0 : ByteArray) (r : Int) (w : World) (h : vernierref06_run.f k a0 = some r) :
  Calls Try.prog 159 #[.string a0] w fun e w' => e = .returned (.int .i64 r) ∧ Drawn0 w w' := by
 have H := h
 clear h
 unfold vernierref06_run.f at H
 have H' := Aside0.mk H
 clear H
 go_enter Try.func159, Try.ntmps159
 go_wp2
 repeat (go_quiet (fail); try go_wp2)
 go_loopg [3] k (fun kq v3 w' => ∃ (x3_1 : Int), v3 = .int .i64 x3_1 ∧ Aside0 (vernierref06_run.l0 kq a0 x3_1 = some r) ∧ Aside0 (kq ≤ k) ∧ Drawn0 w w')
 case atStart => exact ⟨(0), okT, H', ⟨Nat.le_refl _⟩, by repeat (first | exact Drawn0.refl _ | apply Drawn0.step)⟩
 case round =>
  clear H'
  obtain ⟨x3_1, rfl, HA, HK1, ⟨m1, rfl⟩⟩ := hrel
  cases gk with
  | zero => exact absurd HA.out (by simp [vernierref06_run.l0])
  | succ k1 =>
   have H := HA.out
   clear HA
   simp only [vernierref06_run.l0] at H
   by_cases c2 : x3_1 < (a0.size : Int)
   ·rw [if_pos c2] at H
    have c2b0 : decide (x3_1 < (a0.size : Int)) = true := decide_eq_true c2
    clear c2
    by_cases c3 : 0 ≤ x3_1
    ·rw [if_pos c3] at H
     have c3b0 : decide (0 ≤ x3_1) = true := decide_eq_true c3
     clear c3
     by_cases c5 : 0 < (a0.size : Int)
     ·rw [if_pos c5] at H
      have c5b0 : decide (0 < (a0.size : Int)) = true := decide_eq_true c5
      have c5b1 : decide (0 < a0.size) = true := decide_eq_true (by omega)
      clear c5
      by_cases c7 : (bt a0 x3_1) = (bt a0 0)
      ·rw [if_pos c7] at H
       obtain ⟨c7b0, c7b1⟩ := eqY c7
       clear c7
       have H' := Aside0.mk H
       clear H
       have p4 : 0 ≤ (x3_1 : Int) := of_decide_eq_true (by first | (with_reducible assumption) | assumption)
       have q4 : x3_1 < (a0.size : Int) := of_decide_eq_true (by first | (with_reducible assumption) | assumption)
       have hx4 := bt_at a0 x3_1
       replace p4 := eq_true p4
       replace q4 := eq_true q4
       have p6 : 0 ≤ (0 : Int) := (by omega)
       have q6 : 0 < a0.size := (by have : (0 : Int) < (a0.size : Int) := of_decide_eq_true (by first | (with_reducible assumption) | assumption); omega)
       have hx6 : ∀ h : 0 < a0.size, ((a0[0]'h).toNat : Int) = bt a0 0 := bt_at a0 0
       clear p6
       have qi6 : (0 < (a0.size : Int)) = True := eq_true (of_decide_eq_true (by first | (with_reducible assumption) | assumption))
       replace q6 := eq_true q6
       go_wp2
       repeat (go_quiet (fail); try go_wp2)
       go_roundg k1
       case measure => have := HK1.out; omega
       case rel => exact ⟨(wrap64 (x3_1 + 1)), okT, H', ⟨by have := HK1.out; omega⟩, by repeat (first | exact Drawn0.refl _ | apply Drawn0.step)⟩
      ·rw [if_neg c7] at H
       obtain ⟨c7b0, c7b1⟩ := eqN c7
       obtain rfl := Option.some.inj H
       have p4 : 0 ≤ (x3_1 : Int) := of_decide_eq_true (by first | (with_reducible assumption) | assumption)
       have q4 : x3_1 < (a0.size : Int) := of_decide_eq_true (by first | (with_reducible assumption) | assumption)
       have hx4 := bt_at a0 x3_1
       replace p4 := eq_true p4
       replace q4 := eq_true q4
       have p6 : 0 ≤ (0 : Int) := (by omega)
       have q6 : 0 < a0.size := (by have : (0 : Int) < (a0.size : Int) := of_decide_eq_true (by first | (with_reducible assumption) | assumption); omega)
       have hx6 : ∀ h : 0 < a0.size, ((a0[0]'h).toNat : Int) = bt a0 0 := bt_at a0 0
       clear p6
       have qi6 : (0 < (a0.size : Int)) = True := eq_true (of_decide_eq_true (by first | (with_reducible assumption) | assumption))
       replace q6 := eq_true q6
       go_wp2
       repeat (go_quiet (fail); try go_wp2)
       go_ret
       exact ⟨okT, by repeat (first | exact Drawn0.refl _ | apply Drawn0.step)⟩
     ·rw [if_neg c5] at H
      exact absurd H (by simp)
    ·rw [if_neg c3] at H
     exact absurd H (by simp)
   ·rw [if_neg c2] at H
    have c2b0 : decide (x3_1 < (a0.size : Int)) = false := decide_eq_false c2
    clear c2
    obtain rfl := Option.some.inj H
    go_wp2
    repeat (go_quiet (fail); try go_wp2)
    go_ret
    exact ⟨okT, by repeat (first | exact Drawn0.refl _ | apply Drawn0.step)⟩
end Go.Proofs.Ytnlbfomlfhigcaa.Q
