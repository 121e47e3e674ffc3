/- Walks and plain laws that the claim stands on: each theorem named calls says that a call of a function returns what its f computes; the others are plain laws of these f, and the words that the walks use. -/
import Derived.Test.YtnlbfomlfhigcaaGenConvertsV2
import Derived.Test.YtnlbfomlfhigcaaGenConvertsV15
import Derived.Test.YtnlbfomlfhigcaaGenConvertsV13
namespace Go.Proofs.Ytnlbfomlfhigcaa.Q
open Go.RowKit Go.Proofs.YtnlbfomlfhigcaaW.PrintWords Go.Proofs.YtnlbfomlfhigcaaW.PrintLast Go.Proofs.YtnlbfomlfhigcaaW.PrintMore
attribute [local go_sem] max2_int min2_int max_two min_two max_three min_three max_four min_four
set_option linter.unusedVariables false
set_option linter.unusedSimpArgs false
mutual
def vernierref07_left.j0 : Nat → ByteArray → Bool → Option (Int)
 | 0, _, _ => none
 | k + 1, x0, x1 => if 1 ≤ (x0.size : Int) then ((vernierref07_some.f k (x0.extract 1 x0.size)).bind fun t448 => (if 0 < (x0.size : Int) then (if (bt x0 0) = 49 then (if t448 = true then (vernierref07_left.j1 k x0 x1 t448 true) else (vernierref07_left.j1 k x0 x1 t448 x1)) else (vernierref07_left.j1 k x0 x1 t448 false)) else (none))) else (none)
def vernierref07_left.j1 : Nat → ByteArray → Bool → Bool → Bool → Option (Int)
 | 0, _, _, _, _ => none
 | k + 1, x0, x1, x5, x11 => if x11 = true then (some 3) else (if 0 < (x0.size : Int) then (if (bt x0 0) = 49 then (some 2) else (if x5 = true then (some 1) else (if x1 = true then (some 1) else (some 0)))) else (none))
end
def vernierref07_left.f (k : Nat) (a0 : ByteArray) (a1 : Bool) : Option (Int) := if a0.toList = ([] : List UInt8) then (vernierref07_left.j0 k (⟨#[48]⟩ : ByteArray) a1) else (vernierref07_left.j0 k a0 a1)
set_option maxHeartbeats 8000000 in
set_option maxRecDepth 100000 in
theorem vernierref07_left.calls (k : Nat) (a0 : ByteArray) (a1 : Bool) (r : Int) (w : World) (h : vernierref07_left.f k a0 a1 = some r) :
  Calls Try.prog 162 #[.string a0, .bool a1] w fun e w' => e = .returned (.int .i64 r) ∧ Drawn0 w w' := by
 have H := h
 clear h
 unfold vernierref07_left.f at H
 have HC3 := Aside0.mk H
 clear H
 go_enter Try.func162, Try.ntmps162
 go_upto_if 7 with (fail)
 go_cut [0] (fun v0 wc => ∃ (kq : Nat) (x0_2 : ByteArray), v0 = .string x0_2 ∧ Aside0 (vernierref07_left.j0 kq x0_2 a1 = some r) ∧ Aside0 (kq ≤ k) ∧ Drawn0 w wc)
 case first =>
  have H := HC3.out
  clear HC3
  by_cases c4 : a0.toList = ([] : List UInt8)
  ·rw [if_pos c4] at H
   have c4b0 : a0.toList.isEmpty = true := by simpa using c4
   have c4b1 : (a0.toList == ([] : List UInt8)) = true := beq_iff_eq.mpr c4
   have c4b2 : (a0.toList != ([] : List UInt8)) = false := bne_eq_false_iff_eq.mpr c4
   clear c4
   (first | rw [c4b0] | (simp only [i64_w, i32_w]; rw [c4b0]) | rw [c4b1] | skip)
   have H' := Aside0.mk H
   clear H
   go_wp2
   go_meet
   case rel => exact ⟨_, ((⟨#[48]⟩ : ByteArray)), okT, H', leT, by repeat (first | exact Drawn0.refl _ | apply Drawn0.step)⟩
  ·rw [if_neg c4] at H
   have c4b0 : a0.toList.isEmpty = false := by simpa using c4
   have c4b1 : (a0.toList == ([] : List UInt8)) = false := beq_eq_false_iff_ne.mpr c4
   have c4b2 : (a0.toList != ([] : List UInt8)) = true := bne_iff_ne.mpr c4
   (first | rw [c4b0] | (simp only [i64_w, i32_w]; rw [c4b0]) | rw [c4b1] | skip)
   have H' := Aside0.mk H
   clear H
   go_wp2
   go_meet
   case rel => exact ⟨_, (a0), okT, H', leT, by repeat (first | exact Drawn0.refl _ | apply Drawn0.step)⟩
 case rest =>
  clear HC3
  obtain ⟨kq, x0_2, rfl, HA, HJ2, ⟨mc2, rfl⟩⟩ := hcut
  cases kq with
  | zero => exact absurd HA.out (by simp [vernierref07_left.j0])
  | succ kj2 =>
   have H := HA.out
   clear HA
   simp only [vernierref07_left.j0] at H
   by_cases c5 : 1 ≤ (x0_2.size : Int)
   ·rw [if_pos c5] at H
    have c5b0 := eq_true c5
    have c5b1 : decide (1 ≤ (x0_2.size : Int)) = true := decide_eq_true c5
    clear c5
    replace H := Option.bind_eq_some_iff.mp H
    obtain ⟨t448, A60, H⟩ := H
    try dsimp only at H
    have A6 := Aside0.mk A60
    clear A60
    have HC7 := Aside0.mk H
    clear H
    go_upto_region 4 with (first | ((with_reducible refine gate_callee (f := 160) rfl ?_); refine goesL_ (some 10) rfl rfl Try.func160 (by kernel_rfl) rfl #[.string (x0_2.extract 1 x0_2.size)] rfl (by (try simp only [List.map_toArray, List.map_cons, List.map_nil]); first | done | rfl | (simp only [List.length_drop, List.length_take]; rfl)) ?_; (with_reducible refine (vernierref07_some.calls kj2 (x0_2.extract 1 x0_2.size) t448 _ A6.out).mono ?_); rintro e w' ⟨rfl, ⟨nd, rfl⟩⟩; refine ⟨_, rfl, ?_⟩))
    (try simp only [Act.put, List.setIfInBounds_toArray, List.set_cons_zero, List.set_cons_succ])
    go_cut [11] (fun v11 wc => ∃ (kq : Nat) (x11_6 : Bool), v11 = .bool x11_6 ∧ Aside0 (vernierref07_left.j1 kq x0_2 a1 t448 x11_6 = some r) ∧ Aside0 (kq ≤ kj2) ∧ Drawn0 w wc)
    case first =>
     have H := HC7.out
     clear HC7
     by_cases c8 : 0 < (x0_2.size : Int)
     ·rw [if_pos c8] at H
      have c8b0 : decide (0 < (x0_2.size : Int)) = true := decide_eq_true c8
      have c8b1 : decide (0 < x0_2.size) = true := decide_eq_true (by omega)
      clear c8
      (first | rw [c8b0] | (simp only [i64_w, i32_w]; rw [c8b0]) | rw [c8b1] | skip)
      by_cases c10 : (bt x0_2 0) = 49
      ·rw [if_pos c10] at H
       obtain ⟨c10b0, c10b1⟩ := eqY c10
       clear c10
       by_cases c11 : t448 = true
       ·subst c11
        rw [if_pos rfl] at H
        have H' := Aside0.mk H
        clear H
        have p9 : 0 ≤ (0 : Int) := (by omega)
        have q9 : 0 < x0_2.size := (by have : (0 : Int) < (x0_2.size : Int) := of_decide_eq_true (by first | (with_reducible assumption) | assumption); omega)
        have hx9 : ∀ h : 0 < x0_2.size, ((x0_2[0]'h).toNat : Int) = bt x0_2 0 := bt_at x0_2 0
        clear p9
        have qi9 : (0 < (x0_2.size : Int)) = True := eq_true (of_decide_eq_true (by first | (with_reducible assumption) | assumption))
        replace q9 := eq_true q9
        go_wp2
        go_meet
        case rel => exact ⟨_, (true), okT, H', ⟨by have := HJ2.out; first | omega | exact Nat.le_refl _⟩, by repeat (first | exact Drawn0.refl _ | apply Drawn0.step)⟩
       ·replace c11 := Bool.eq_false_iff.mpr c11
        subst c11
        rw [if_neg (show ¬ (false = true) by decide)] at H
        have H' := Aside0.mk H
        clear H
        have p9 : 0 ≤ (0 : Int) := (by omega)
        have q9 : 0 < x0_2.size := (by have : (0 : Int) < (x0_2.size : Int) := of_decide_eq_true (by first | (with_reducible assumption) | assumption); omega)
        have hx9 : ∀ h : 0 < x0_2.size, ((x0_2[0]'h).toNat : Int) = bt x0_2 0 := bt_at x0_2 0
        clear p9
        have qi9 : (0 < (x0_2.size : Int)) = True := eq_true (of_decide_eq_true (by first | (with_reducible assumption) | assumption))
        replace q9 := eq_true q9
        go_wp2
        go_meet
        case rel => exact ⟨_, (a1), okT, H', ⟨by have := HJ2.out; first | omega | exact Nat.le_refl _⟩, by repeat (first | exact Drawn0.refl _ | apply Drawn0.step)⟩
      ·rw [if_neg c10] at H
       obtain ⟨c10b0, c10b1⟩ := eqN c10
       have H' := Aside0.mk H
       clear H
       have p9 : 0 ≤ (0 : Int) := (by omega)
       have q9 : 0 < x0_2.size := (by have : (0 : Int) < (x0_2.size : Int) := of_decide_eq_true (by first | (with_reducible assumption) | assumption); omega)
       have hx9 : ∀ h : 0 < x0_2.size, ((x0_2[0]'h).toNat : Int) = bt x0_2 0 := bt_at x0_2 0
       clear p9
       have qi9 : (0 < (x0_2.size : Int)) = True := eq_true (of_decide_eq_true (by first | (with_reducible assumption) | assumption))
       replace q9 := eq_true q9
       go_wp2
       go_meet
       case rel => exact ⟨_, (false), okT, H', ⟨by have := HJ2.out; first | omega | exact Nat.le_refl _⟩, by repeat (first | exact Drawn0.refl _ | apply Drawn0.step)⟩
     ·rw [if_neg c8] at H
      exact absurd H (by simp)
    case rest =>
     clear HC7
     try clear c5
     try clear c5b0
     try clear c5b1
     obtain ⟨kq, x11_6, rfl, HA, HJ6, ⟨mc6, rfl⟩⟩ := hcut
     cases kq with
     | zero => exact absurd HA.out (by simp [vernierref07_left.j1])
     | succ kj6 =>
      have H := HA.out
      clear HA
      simp only [vernierref07_left.j1] at H
      by_cases c12 : x11_6 = true
      ·subst c12
       rw [if_pos rfl] at H
       obtain rfl := Option.some.inj H
       go_wp2
       go_ret
       exact ⟨okT, by repeat (first | exact Drawn0.refl _ | apply Drawn0.step)⟩
      ·replace c12 := Bool.eq_false_iff.mpr c12
       subst c12
       rw [if_neg (show ¬ (false = true) by decide)] at H
       by_cases c13 : 0 < (x0_2.size : Int)
       ·rw [if_pos c13] at H
        have c13b0 : decide (0 < (x0_2.size : Int)) = true := decide_eq_true c13
        have c13b1 : decide (0 < x0_2.size) = true := decide_eq_true (by omega)
        clear c13
        by_cases c15 : (bt x0_2 0) = 49
        ·rw [if_pos c15] at H
         obtain ⟨c15b0, c15b1⟩ := eqY c15
         clear c15
         obtain rfl := Option.some.inj H
         have p14 : 0 ≤ (0 : Int) := (by omega)
         have q14 : 0 < x0_2.size := (by have : (0 : Int) < (x0_2.size : Int) := of_decide_eq_true (by first | (with_reducible assumption) | assumption); omega)
         have hx14 : ∀ h : 0 < x0_2.size, ((x0_2[0]'h).toNat : Int) = bt x0_2 0 := bt_at x0_2 0
         clear p14
         have qi14 : (0 < (x0_2.size : Int)) = True := eq_true (of_decide_eq_true (by first | (with_reducible assumption) | assumption))
         replace q14 := eq_true q14
         go_wp2
         go_ret
         exact ⟨okT, by repeat (first | exact Drawn0.refl _ | apply Drawn0.step)⟩
        ·rw [if_neg c15] at H
         obtain ⟨c15b0, c15b1⟩ := eqN c15
         by_cases c16 : t448 = true
         ·subst c16
          rw [if_pos rfl] at H
          obtain rfl := Option.some.inj H
          have p14 : 0 ≤ (0 : Int) := (by omega)
          have q14 : 0 < x0_2.size := (by have : (0 : Int) < (x0_2.size : Int) := of_decide_eq_true (by first | (with_reducible assumption) | assumption); omega)
          have hx14 : ∀ h : 0 < x0_2.size, ((x0_2[0]'h).toNat : Int) = bt x0_2 0 := bt_at x0_2 0
          clear p14
          have qi14 : (0 < (x0_2.size : Int)) = True := eq_true (of_decide_eq_true (by first | (with_reducible assumption) | assumption))
          replace q14 := eq_true q14
          go_wp2
          go_ret
          exact ⟨okT, by repeat (first | exact Drawn0.refl _ | apply Drawn0.step)⟩
         ·replace c16 := Bool.eq_false_iff.mpr c16
          subst c16
          rw [if_neg (show ¬ (false = true) by decide)] at H
          by_cases c17 : a1 = true
          ·subst c17
           rw [if_pos rfl] at H
           obtain rfl := Option.some.inj H
           have p14 : 0 ≤ (0 : Int) := (by omega)
           have q14 : 0 < x0_2.size := (by have : (0 : Int) < (x0_2.size : Int) := of_decide_eq_true (by first | (with_reducible assumption) | assumption); omega)
           have hx14 : ∀ h : 0 < x0_2.size, ((x0_2[0]'h).toNat : Int) = bt x0_2 0 := bt_at x0_2 0
           clear p14
           have qi14 : (0 < (x0_2.size : Int)) = True := eq_true (of_decide_eq_true (by first | (with_reducible assumption) | assumption))
           replace q14 := eq_true q14
           go_wp2
           go_ret
           exact ⟨okT, by repeat (first | exact Drawn0.refl _ | apply Drawn0.step)⟩
          ·replace c17 := Bool.eq_false_iff.mpr c17
           subst c17
           rw [if_neg (show ¬ (false = true) by decide)] at H
           obtain rfl := Option.some.inj H
           have p14 : 0 ≤ (0 : Int) := (by omega)
           have q14 : 0 < x0_2.size := (by have : (0 : Int) < (x0_2.size : Int) := of_decide_eq_true (by first | (with_reducible assumption) | assumption); omega)
           have hx14 : ∀ h : 0 < x0_2.size, ((x0_2[0]'h).toNat : Int) = bt x0_2 0 := bt_at x0_2 0
           clear p14
           have qi14 : (0 < (x0_2.size : Int)) = True := eq_true (of_decide_eq_true (by first | (with_reducible assumption) | assumption))
           replace q14 := eq_true q14
           go_wp2
           go_ret
           exact ⟨okT, by repeat (first | exact Drawn0.refl _ | apply Drawn0.step)⟩
       ·rw [if_neg c13] at H
        exact absurd H (by simp)
   ·rw [if_neg c5] at H
    exact absurd H (by simp)
end Go.Proofs.Ytnlbfomlfhigcaa.Q
namespace Go.Proofs.Ytnlbfomlfhigcaa.Q
open Go.RowKit Go.Proofs.YtnlbfomlfhigcaaW.PrintWords Go.Proofs.YtnlbfomlfhigcaaW.PrintLast Go.Proofs.YtnlbfomlfhigcaaW.PrintMore
attribute [local go_sem] max2_int min2_int max_two min_two max_three min_three max_four min_four
set_option linter.unusedVariables false
set_option linter.unusedSimpArgs false
mutual
def vernierref07_Cut.j0 : Nat → Int → ByteArray → Bool → Int → Bool → Int → Int → Int → Bool → Option (Int × Int × Int)
 | 0, _, _, _, _, _, _, _, _, _ => none
 | k + 1, x0, x10, x11, x450000, x450001, x450002, x450003, x450004, x450005 => if x450002 ≥ (wrap64 ((wrap64 (4 * x0)) - 8)) then ((vernierref05_Power.f k (wrap64 (x0 - 1))).bind fun t456 => (some (IntKind.u64.wrap (t456 - 1), 0, 0))) else (if x450002 < (wrap64 (-(wrap64 ((wrap64 (4 * x0)) - 8)))) then (vernierref07_Cut.j1 k x0 x10 true x450000 x450001 x450002 x450003 x450004 x450005) else (if x450002 = (wrap64 (-(wrap64 ((wrap64 (4 * x0)) - 8)))) then (vernierref07_Cut.j1 k x0 x10 x11 x450000 x450001 x450002 x450003 x450004 x450005) else (vernierref07_Cut.j1 k x0 x10 false x450000 x450001 x450002 x450003 x450004 x450005)))
def vernierref07_Cut.j1 : Nat → Int → ByteArray → Bool → Int → Bool → Int → Int → Int → Bool → Option (Int × Int × Int)
 | 0, _, _, _, _, _, _, _, _, _ => none
 | k + 1, x0, x10, x73, x450000, x450001, x450002, x450003, x450004, x450005 => if x73 = true then (some (1, 0, 0)) else ((vernierref06_Head.f k x450002).bind fun t457 => (if t457.size + x10.size ≤ 9223372036854775807 then (if 0 ≤ (wrap64 (x0 - 1)) then (if (wrap64 (x0 - 1)) ≤ ((t457 ++ x10).size : Int) then ((vernierref01_Number.f k ((t457 ++ x10).extract 0 ((wrap64 (x0 - 1)) : Int).toNat)).bind fun t458 => ((vernierref07_left.f k ((t457 ++ x10).extract ((wrap64 (x0 - 1)) : Int).toNat (t457 ++ x10).size) x450005).bind fun t459 => (some (t458, t459, 0)))) else (none)) else (none)) else (none)))
end
def vernierref07_Cut.f (k : Nat) (a0 : Int) (a1_0 : Int) (a1_1 : Bool) (a1_2 : Int) (a1_3 : Int) (a1_4 : Int) (a1_5 : Bool) : Option (Int × Int × Int) := (vernierref05_Is.f a0).bind fun t450 => ((vernierref07_Sound.f a1_0 a1_1 a1_2 a1_3 a1_4 a1_5).bind fun t451 => (if t450 = true then (if t451 = true then (if a1_0 = 1 then ((vernierref01_Text.f k a1_3 64).bind fun t453 => (if 1 ≤ (t453.size : Int) then ((vernierref01_Text.f k a1_4 64).bind fun t454 => (if (t453.extract 1 t453.size).size + t454.size ≤ 9223372036854775807 then (if a1_5 = true then (vernierref07_Cut.j0 k a0 ((t453.extract 1 t453.size) ++ t454) false a1_0 a1_1 a1_2 a1_3 a1_4 a1_5) else ((vernierref07_some.f k ((t453.extract 1 t453.size) ++ t454)).bind fun t455 => (vernierref07_Cut.j0 k a0 ((t453.extract 1 t453.size) ++ t454) (!t455) a1_0 a1_1 a1_2 a1_3 a1_4 a1_5))) else (none))) else (none))) else (if a1_0 = 2 then ((vernierref05_Power.f k (wrap64 (a0 - 1))).bind fun t452 => (some (t452, 0, 0))) else (some (0, 0, 0)))) else (some (0, 0, 1))) else (some (0, 0, 2))))
def vernierref07_Cut.T12 : Bool × List (List Nat × List Nat) := (true, [([], []), ([0], [0]), ([1], [1]), ([2], [2]), ([], []), ([4], [4]), ([5, 2], [5]), ([3, 6], [3, 6]), ([7, 6, 0, 1, 2, 3, 4, 5, 6, 7], [7])])
def vernierref07_Cut.B12 : List Nat := [0, 1, 3, 7, 0, 16, 55, 127, 255]
theorem vernierref07_Cut.tab12 : rtab .any (opsOf Try.f134 12) = vernierref07_Cut.T12 := by kernel_rfl
theorem vernierref07_Cut.bits12 : waitsOk vernierref07_Cut.T12.2 vernierref07_Cut.B12 = true := by kernel_rfl
def vernierref07_Cut.T20 : Bool × List (List Nat × List Nat) := (true, [([], []), ([], []), ([1], [1]), ([0, 2], [0, 2]), ([3], [3]), ([], []), ([], []), ([6], [6]), ([5, 7], [5, 7]), ([], []), ([9], [9]), ([8, 10, 4], [8, 10]), ([4, 11, 0, 1, 2, 3, 4], [4]), ([11, 12, 0, 1, 2, 3, 4, 5, 6, 7, 8, 9, 10, 11, 12], [11]), ([13, 0, 1, 2, 3, 4, 5, 6, 7, 8, 9, 10, 11, 12, 13], [])])
def vernierref07_Cut.B20 : List Nat := [0, 0, 2, 7, 15, 0, 0, 64, 224, 0, 512, 2047, 4095, 8191, 16383]
theorem vernierref07_Cut.tab20 : rtab .any (opsOf Try.f134 20) = vernierref07_Cut.T20 := by kernel_rfl
theorem vernierref07_Cut.bits20 : waitsOk vernierref07_Cut.T20.2 vernierref07_Cut.B20 = true := by kernel_rfl
set_option maxHeartbeats 8000000 in
set_option maxRecDepth 100000 in
theorem vernierref07_Cut.calls (k : Nat) (a0 : Int) (a1_0 : Int) (a1_1 : Bool) (a1_2 : Int) (a1_3 : Int) (a1_4 : Int) (a1_5 : Bool) (r1 : Int) (r2 : Int) (r3 : Int) (w : World) (h : vernierref07_Cut.f k a0 a1_0 a1_1 a1_2 a1_3 a1_4 a1_5 = some (r1, r2, r3)) :
  Calls Try.prog 134 #[.int .i64 a0, .agg #[.int .i64 a1_0, .bool a1_1, .int .i64 a1_2, .int .u64 a1_3, .int .u64 a1_4, .bool a1_5]] w fun e w' => e = .returned (.tuple #[.int .u64 r1, .int .i64 r2, .int .i64 r3]) ∧ Below w.heap.size w w' := by
 have hu86 := Try.underlying86
 have HB := Aside0.mk (Below.refl w.heap.size w)
 have H := h
 clear h
 unfold vernierref07_Cut.f at H
 replace H := Option.bind_eq_some_iff.mp H
 obtain ⟨t450, A30, H⟩ := H
 try dsimp only at H
 have A3 := Aside0.mk A30
 clear A30
 replace H := Option.bind_eq_some_iff.mp H
 obtain ⟨t451, A40, H⟩ := H
 try dsimp only at H
 have A4 := Aside0.mk A40
 clear A40
 by_cases c5 : t450 = true
 ·subst c5
  rw [if_pos rfl] at H
  by_cases c6 : t451 = true
  ·subst c6
   rw [if_pos rfl] at H
   by_cases c7 : a1_0 = 1
   ·rw [if_pos c7] at H
    obtain ⟨c7b0, c7b1⟩ := eqY c7
    clear c7
    replace H := Option.bind_eq_some_iff.mp H
    obtain ⟨t453, A80, H⟩ := H
    try dsimp only at H
    have A8 := Aside0.mk A80
    clear A80
    by_cases c9 : 1 ≤ (t453.size : Int)
    ·rw [if_pos c9] at H
     have c9b0 := eq_true c9
     have c9b1 : decide (1 ≤ (t453.size : Int)) = true := decide_eq_true c9
     clear c9
     replace H := Option.bind_eq_some_iff.mp H
     obtain ⟨t454, A100, H⟩ := H
     try dsimp only at H
     have A10 := Aside0.mk A100
     clear A100
     by_cases c11 : (t453.extract 1 t453.size).size + t454.size ≤ 9223372036854775807
     ·rw [if_pos c11] at H
      have c11b0 := eq_true c11
      have c11b1 : decide ((t453.extract 1 t453.size).size + t454.size ≤ 9223372036854775807) = true := decide_eq_true c11
      try have c11b2 : (9223372036854775807 < (t453.extract 1 t453.size).size + t454.size) = False := eq_false (Nat.not_lt.2 c11)
      have c11b3 : (9223372036854775807 < t453.size - 1 + t454.size) = False := eq_false (by have hq := c11; simp only [ByteArray.size_extract] at hq; omega)
      have HC12 := Aside0.mk H
      clear H
      go_enter Try.func134, Try.ntmps134
      try go_wp2_with (first | ((with_reducible refine gate_dst (N := 3) rfl ?_); refine boxA 3 (#[.int .i64 a1_0, .bool a1_1, .int .i64 a1_2, .int .u64 a1_3, .int .u64 a1_4, .bool a1_5]) 86 ?_; intro gb449 hg w13 BK449 hb; have GW449 := geT hg; have GE449 := GW449; replace HB := hbS hb; clear hb hg) | ((with_reducible refine gate_callee (f := 48) rfl ?_); refine goesL_ (some 15) rfl rfl Try.func48 (by kernel_rfl) rfl #[.int .i64 a0] rfl (by (try simp only [List.map_toArray, List.map_cons, List.map_nil]); first | done | rfl | (simp only [List.length_drop, List.length_take]; rfl)) ?_; (with_reducible refine (vernierref05_Is.calls a0 true _ A3.out).mono ?_); rintro e w' ⟨rfl, ⟨nd, rfl⟩⟩; refine ⟨_, rfl, ?_⟩; obtain ⟨z14_0, z14_1, z14_2, z14_3, z14_4, z14_5, y14_0, y14_1, y14_2, y14_3, y14_4, y14_5⟩ := cz6 BK449) | ((with_reducible refine gate_callee (f := 92) rfl ?_); refine goA (some 17) Try.func92 (vernierref07_Sound.calls a1_0 a1_1 a1_2 a1_3 a1_4 a1_5 true _ A4.out) ?_; intro w15 hb; replace BK449 := bkB BK449 hb; replace HB := hbS hb; clear hb; obtain ⟨z16_0, z16_1, z16_2, z16_3, z16_4, z16_5, y16_0, y16_1, y16_2, y16_3, y16_4, y16_5⟩ := cz6 BK449))
      have n0_ := Aside0.mk (blk_drew BK449.out)
      have n1_ := Aside0.mk (below_drew1 HB.out)
      clear BK449
      clear HB
      have BK449 := n0_
      have HB := n1_
      clear n0_ n1_
      refine start_ (n := 9) (S := fun w' => w'.cell? ⟨gb449, 0, none⟩ = some (.int .i64 a1_0) ∧ w'.cell? ⟨gb449, 1, none⟩ = some (.bool a1_1) ∧ w'.cell? ⟨gb449, 2, none⟩ = some (.int .i64 a1_2) ∧ w'.cell? ⟨gb449, 3, none⟩ = some (.int .u64 a1_3) ∧ w'.cell? ⟨gb449, 4, none⟩ = some (.int .u64 a1_4) ∧ w'.cell? ⟨gb449, 5, none⟩ = some (.bool a1_5)) (ds := []) #[false, false, false, false, false, false, false, false, false] (by kernel_rfl) rfl rfl ⟨(blk_cell BK449.out 0).trans rfl, (blk_cell BK449.out 1).trans rfl, (blk_cell BK449.out 2).trans rfl, (blk_cell BK449.out 3).trans rfl, (blk_cell BK449.out 4).trans rfl, (blk_cell BK449.out 5).trans rfl⟩ (fun hHeld => ?_); refine with_tabW vernierref07_Cut.tab12 vernierref07_Cut.bits12 (fun HT_ HW_ => ?_)
      generalize w15.drew = w17 at BK449 HB hHeld ⊢
      refine pure_ (i := 0) (N := some 32) (v := ?_) (a' := ?_) #[true, false, false, false, false, false, false, false, false] rfl rfl (any_of HT_.out (by kernel_rfl)) (fun _ _ _ h => h) (Or.inl ⟨by rfl, ?_⟩) ?_ ?_
      rotate_left
      ·intro w'
       go_simp
       with_reducible rfl
      rotate_left
      ·simp only [Act.put, List.setIfInBounds_toArray, List.set_cons_zero, List.set_cons_succ, i64_w, i32_w]
       rfl
      refine pure_ (i := 4) (N := some 36) (v := ?_) (a' := ?_) #[true, false, false, false, true, false, false, false, false] rfl rfl (any_of HT_.out (by kernel_rfl)) (fun _ _ _ h => h) (Or.inl ⟨by rfl, ?_⟩) ?_ ?_
      rotate_left
      ·intro w'
       go_simp
       with_reducible rfl
      rotate_left
      ·simp only [Act.put, List.setIfInBounds_toArray, List.set_cons_zero, List.set_cons_succ, i64_w, i32_w]
       rfl
      refine take_ (i := 1) (N := some 33) (v := ?_) (a' := ?_) #[true, true, false, false, true, false, false, false, false] rfl rfl (take_ofW HT_.out HW_.out (by kernel_rfl)) (fun _ _ _ h => h) (Or.inl ⟨by rfl, ?_⟩) hHeld ?_ ?_
      rotate_left
      ·rintro w' ⟨s0, s1, s2, s3, s4, s5⟩
       go_simp
       with_reducible rfl
      rotate_left
      ·simp only [Act.put, List.setIfInBounds_toArray, List.set_cons_zero, List.set_cons_succ, i64_w, i32_w]
       rfl
      refine take_ (i := 5) (N := some 37) (v := ?_) (a' := ?_) #[true, true, false, false, true, true, false, false, false] rfl rfl (take_ofW HT_.out HW_.out (by kernel_rfl)) (fun _ _ _ h => h) (Or.inl ⟨by rfl, ?_⟩) hHeld ?_ ?_
      rotate_left
      ·rintro w' ⟨s0, s1, s2, s3, s4, s5⟩
       go_simp
       with_reducible rfl
      rotate_left
      ·simp only [Act.put, List.setIfInBounds_toArray, List.set_cons_zero, List.set_cons_succ, i64_w, i32_w]
       rfl
      refine one_ (i := 2) (N := some 34) #[true, true, true, false, true, true, false, false, false] rfl rfl (one_of HT_.out (by kernel_rfl)) (by decide) (fun K hK => ?_)
      refine goes_ Try.func110 (by kernel_rfl) rfl #[.int .u64 a1_3, .int .i64 64] (by rfl) rfl rfl (by (try simp only [List.map_toArray, List.map_cons, List.map_nil]); first | done | rfl | (simp only [List.length_drop, List.length_take]; rfl)) ?_
      with_reducible refine (vernierref01_Text.calls k a1_3 64 t453 _ A8.out).mono ?_
      rintro e w18 ⟨rfl, hb⟩
      refine ⟨_, rfl, ?_⟩
      have n0_ := bkB BK449 hb
      have n1_ := hbS hb
      clear BK449
      clear HB
      have BK449 := n0_
      have HB := n1_
      clear n0_ n1_
      (try clear hb)
      (try clear hb2)
      (try clear hk)
      (try clear hi)
      refine hK.out _ _ ⟨(blk_cell BK449.out 0).trans rfl, (blk_cell BK449.out 1).trans rfl, (blk_cell BK449.out 2).trans rfl, (blk_cell BK449.out 3).trans rfl, (blk_cell BK449.out 4).trans rfl, (blk_cell BK449.out 5).trans rfl⟩ (fun hHeld => ?_)
      clear hK K
      refine norm_ (a' := ?_) ?_ ?_
      rotate_left
      ·show Act.put _ (some 34) _ = _
       simp only [Act.put, List.setIfInBounds_toArray, List.set_cons_zero, List.set_cons_succ, i64_w, i32_w]
       rfl
      refine pure_ (i := 3) (N := some 35) (v := ?_) (a' := ?_) #[true, true, true, true, true, true, false, false, false] rfl rfl (any_of HT_.out (by kernel_rfl)) (fun _ _ _ h => h) (Or.inl ⟨by rfl, ?_⟩) ?_ ?_
      rotate_left
      ·intro w'
       go_simp
       with_reducible rfl
      rotate_left
      ·simp only [Act.put, List.setIfInBounds_toArray, List.set_cons_zero, List.set_cons_succ, i64_w, i32_w]
       rfl
      refine one_ (i := 6) (N := some 38) #[true, true, true, true, true, true, true, false, false] rfl rfl (one_of HT_.out (by kernel_rfl)) (by decide) (fun K hK => ?_)
      refine goes_ Try.func110 (by kernel_rfl) rfl #[.int .u64 a1_4, .int .i64 64] (by rfl) rfl rfl (by (try simp only [List.map_toArray, List.map_cons, List.map_nil]); first | done | rfl | (simp only [List.length_drop, List.length_take]; rfl)) ?_
      with_reducible refine (vernierref01_Text.calls k a1_4 64 t454 _ A10.out).mono ?_
      rintro e w19 ⟨rfl, hb⟩
      refine ⟨_, rfl, ?_⟩
      have n0_ := bkB BK449 hb
      have n1_ := hbS hb
      clear BK449
      clear HB
      have BK449 := n0_
      have HB := n1_
      clear n0_ n1_
      (try clear hb)
      (try clear hb2)
      (try clear hk)
      (try clear hi)
      refine hK.out _ _ ⟨(blk_cell BK449.out 0).trans rfl, (blk_cell BK449.out 1).trans rfl, (blk_cell BK449.out 2).trans rfl, (blk_cell BK449.out 3).trans rfl, (blk_cell BK449.out 4).trans rfl, (blk_cell BK449.out 5).trans rfl⟩ (fun hHeld => ?_)
      clear hK K
      refine norm_ (a' := ?_) ?_ ?_
      rotate_left
      ·show Act.put _ (some 38) _ = _
       simp only [Act.put, List.setIfInBounds_toArray, List.set_cons_zero, List.set_cons_succ, i64_w, i32_w]
       rfl
      refine pure_ (i := 7) (N := some 39) (v := ?_) (a' := ?_) #[true, true, true, true, true, true, true, true, false] rfl rfl (any_of HT_.out (by kernel_rfl)) (fun _ _ _ h => h) (Or.inl ⟨by rfl, ?_⟩) ?_ ?_
      rotate_left
      ·intro w'
       go_simp
       with_reducible rfl
      rotate_left
      ·simp only [Act.put, List.setIfInBounds_toArray, List.set_cons_zero, List.set_cons_succ, i64_w, i32_w]
       rfl
      refine pure_ (i := 8) (N := some 10) (v := ?_) (a' := ?_) #[true, true, true, true, true, true, true, true, true] rfl rfl (any_of HT_.out (by kernel_rfl)) (fun _ _ _ h => h) (Or.inl ⟨by rfl, ?_⟩) ?_ ?_
      rotate_left
      ·intro w'
       go_simp
       with_reducible rfl
      rotate_left
      ·simp only [Act.put, List.setIfInBounds_toArray, List.set_cons_zero, List.set_cons_succ, i64_w, i32_w]
       rfl
      refine done_ (done_of HT_.out (by kernel_rfl)) ?_
      go_upto_region 13 with (fail)
      go_cut [11] (fun v11 wc => ∃ (kq : Nat) (x11_11 : Bool), v11 = .bool x11_11 ∧ Aside0 (vernierref07_Cut.j0 kq a0 ((t453.extract 1 t453.size) ++ t454) x11_11 a1_0 a1_1 a1_2 a1_3 a1_4 a1_5 = some (r1, r2, r3)) ∧ Aside0 (kq ≤ k) ∧ Aside0 (wc.heap[gb449]? = some (.cells #[.int .i64 a1_0, .bool a1_1, .int .i64 a1_2, .int .u64 a1_3, .int .u64 a1_4, .bool a1_5] 86 (0, 0))) ∧ Aside0 (Below w.heap.size w wc))
      case first =>
       have H := HC12.out
       clear HC12
       by_cases c20 : a1_5 = true
       ·subst c20
        rw [if_pos rfl] at H
        have H' := Aside0.mk H
        clear H
        obtain ⟨z21_0, z21_1, z21_2, z21_3, z21_4, z21_5, y21_0, y21_1, y21_2, y21_3, y21_4, y21_5⟩ := cz6 BK449
        go_wp2
        go_meet
        case rel => exact ⟨_, (false), okT, H', leT, ⟨bkT BK449⟩, ⟨hbT⟩⟩
       ·replace c20 := Bool.eq_false_iff.mpr c20
        subst c20
        rw [if_neg (show ¬ (false = true) by decide)] at H
        replace H := Option.bind_eq_some_iff.mp H
        obtain ⟨t455, A220, H⟩ := H
        try dsimp only at H
        have A22 := Aside0.mk A220
        clear A220
        have H' := Aside0.mk H
        clear H
        obtain ⟨z23_0, z23_1, z23_2, z23_3, z23_4, z23_5, y23_0, y23_1, y23_2, y23_3, y23_4, y23_5⟩ := cz6 BK449
        go_wp2_with (first | (go_at_call 160; (with_reducible refine (vernierref07_some.calls k ((t453.extract 1 t453.size) ++ t454) t455 _ A22.out).mono ?_); rintro e w' ⟨rfl, ⟨nd, rfl⟩⟩))
        go_meet
        case rel => exact ⟨_, (!t455), okT, H', leT, ⟨bkT BK449⟩, ⟨hbT⟩⟩
      case rest =>
       clear HC12
       try clear c5
       try clear c6
       try clear c7
       try clear c7b0
       try clear c7b1
       try clear c9
       try clear c9b0
       try clear c9b1
       try clear c11
       try clear c11b0
       try clear c11b1
       try clear c11b2
       try clear z14_0 z14_1 z14_2 z14_3 z14_4 z14_5 y14_0 y14_1 y14_2 y14_3 y14_4 y14_5
       try clear z16_0 z16_1 z16_2 z16_3 z16_4 z16_5 y16_0 y16_1 y16_2 y16_3 y16_4 y16_5
       obtain ⟨kq, x11_11, rfl, HA, HJ11, BK449, HB⟩ := hcut
       cases kq with
       | zero => exact absurd HA.out (by simp [vernierref07_Cut.j0])
       | succ kj11 =>
        have H := HA.out
        clear HA
        simp only [vernierref07_Cut.j0] at H
        by_cases c24 : a1_2 ≥ (wrap64 ((wrap64 (4 * a0)) - 8))
        ·rw [if_pos c24] at H
         have c24b0 : decide ((wrap64 ((wrap64 (4 * a0)) - 8)) ≤ a1_2) = true := decide_eq_true c24
         clear c24
         replace H := Option.bind_eq_some_iff.mp H
         obtain ⟨t456, A250, H⟩ := H
         try dsimp only at H
         have A25 := Aside0.mk A250
         clear A250
         simp only [Option.some.injEq, Prod.mk.injEq] at H
         obtain ⟨rfl, rfl, rfl⟩ := H
         obtain ⟨z26_0, z26_1, z26_2, z26_3, z26_4, z26_5, y26_0, y26_1, y26_2, y26_3, y26_4, y26_5⟩ := cz6 BK449
         go_wp2_with (first | ((with_reducible refine gate_callee (f := 53) rfl ?_); refine goesL_ (some 57) rfl rfl Try.func53 (by kernel_rfl) rfl #[.int .i64 (wrap64 (a0 - 1))] rfl (by (try simp only [List.map_toArray, List.map_cons, List.map_nil]); first | done | rfl | (simp only [List.length_drop, List.length_take]; rfl)) ?_; (with_reducible refine (vernierref05_Power.calls kj11 (wrap64 (a0 - 1)) t456 _ A25.out).mono ?_); rintro e w' ⟨rfl, ⟨nd, rfl⟩⟩; refine ⟨_, rfl, ?_⟩))
         go_ret3
         exact ⟨reT, hbT⟩
        ·rw [if_neg c24] at H
         have c24b0 : decide ((wrap64 ((wrap64 (4 * a0)) - 8)) ≤ a1_2) = false := decide_eq_false c24
         clear c24
         have HC27 := Aside0.mk H
         clear H
         obtain ⟨z28_0, z28_1, z28_2, z28_3, z28_4, z28_5, y28_0, y28_1, y28_2, y28_3, y28_4, y28_5⟩ := cz6 BK449
         go_upto_region 17 with (fail)
         go_cut [73] (fun v73 wc => ∃ (kq : Nat) (x73_26 : Bool), v73 = .bool x73_26 ∧ Aside0 (vernierref07_Cut.j1 kq a0 ((t453.extract 1 t453.size) ++ t454) x73_26 a1_0 a1_1 a1_2 a1_3 a1_4 a1_5 = some (r1, r2, r3)) ∧ Aside0 (kq ≤ kj11) ∧ Aside0 (wc.heap[gb449]? = some (.cells #[.int .i64 a1_0, .bool a1_1, .int .i64 a1_2, .int .u64 a1_3, .int .u64 a1_4, .bool a1_5] 86 (0, 0))) ∧ Aside0 (Below w.heap.size w wc))
         case first =>
          have H := HC27.out
          clear HC27
          by_cases c29 : a1_2 < (wrap64 (-(wrap64 ((wrap64 (4 * a0)) - 8))))
          ·rw [if_pos c29] at H
           have c29b0 : decide (a1_2 < (wrap64 (-(wrap64 ((wrap64 (4 * a0)) - 8))))) = true := decide_eq_true c29
           clear c29
           (first | rw [c29b0] | (simp only [i64_w, i32_w]; rw [c29b0]) | rw [c29b1] | skip)
           have H' := Aside0.mk H
           clear H
           obtain ⟨z30_0, z30_1, z30_2, z30_3, z30_4, z30_5, y30_0, y30_1, y30_2, y30_3, y30_4, y30_5⟩ := cz6 BK449
           go_wp2
           go_meet
           case rel => exact ⟨_, (true), okT, H', ⟨by have := HJ11.out; first | omega | exact Nat.le_refl _⟩, ⟨bkT BK449⟩, ⟨hbT⟩⟩
          ·rw [if_neg c29] at H
           have c29b0 : decide (a1_2 < (wrap64 (-(wrap64 ((wrap64 (4 * a0)) - 8))))) = false := decide_eq_false c29
           clear c29
           (first | rw [c29b0] | (simp only [i64_w, i32_w]; rw [c29b0]) | rw [c29b1] | skip)
           by_cases c31 : a1_2 = (wrap64 (-(wrap64 ((wrap64 (4 * a0)) - 8))))
           ·rw [if_pos c31] at H
            obtain ⟨c31b0, c31b1⟩ := eqY c31
            clear c31
            have H' := Aside0.mk H
            clear H
            obtain ⟨z32_0, z32_1, z32_2, z32_3, z32_4, z32_5, y32_0, y32_1, y32_2, y32_3, y32_4, y32_5⟩ := cz6 BK449
            go_wp2
            go_meet
            case rel => exact ⟨_, (x11_11), okT, H', ⟨by have := HJ11.out; first | omega | exact Nat.le_refl _⟩, ⟨bkT BK449⟩, ⟨hbT⟩⟩
           ·rw [if_neg c31] at H
            obtain ⟨c31b0, c31b1⟩ := eqN c31
            have H' := Aside0.mk H
            clear H
            obtain ⟨z33_0, z33_1, z33_2, z33_3, z33_4, z33_5, y33_0, y33_1, y33_2, y33_3, y33_4, y33_5⟩ := cz6 BK449
            go_wp2
            go_meet
            case rel => exact ⟨_, (false), okT, H', ⟨by have := HJ11.out; first | omega | exact Nat.le_refl _⟩, ⟨bkT BK449⟩, ⟨hbT⟩⟩
         case rest =>
          clear HC27
          try clear c24
          try clear c24b0
          try clear z28_0 z28_1 z28_2 z28_3 z28_4 z28_5 y28_0 y28_1 y28_2 y28_3 y28_4 y28_5
          obtain ⟨kq, x73_26, rfl, HA, HJ26, BK449, HB⟩ := hcut
          cases kq with
          | zero => exact absurd HA.out (by simp [vernierref07_Cut.j1])
          | succ kj26 =>
           have H := HA.out
           clear HA
           simp only [vernierref07_Cut.j1] at H
           by_cases c34 : x73_26 = true
           ·subst c34
            rw [if_pos rfl] at H
            simp only [Option.some.injEq, Prod.mk.injEq] at H
            obtain ⟨rfl, rfl, rfl⟩ := H
            go_wp2
            go_ret3
            exact ⟨reT, hbT⟩
           ·replace c34 := Bool.eq_false_iff.mpr c34
            subst c34
            rw [if_neg (show ¬ (false = true) by decide)] at H
            replace H := Option.bind_eq_some_iff.mp H
            obtain ⟨t457, A350, H⟩ := H
            try dsimp only at H
            have A35 := Aside0.mk A350
            clear A350
            by_cases c36 : t457.size + ((t453.extract 1 t453.size) ++ t454).size ≤ 9223372036854775807
            ·rw [if_pos c36] at H
             have c36b0 := eq_true c36
             have c36b1 : decide (t457.size + ((t453.extract 1 t453.size) ++ t454).size ≤ 9223372036854775807) = true := decide_eq_true c36
             try have c36b2 : (9223372036854775807 < t457.size + ((t453.extract 1 t453.size) ++ t454).size) = False := eq_false (Nat.not_lt.2 c36)
             obtain ⟨ji37, hji37⟩ : ∃ j_ : Int, (wrap64 (a0 - 1)) = j_ := ⟨_, rfl⟩
             replace H : (if 0 ≤ (ji37) then (if (ji37) ≤ ((t457 ++ ((t453.extract 1 t453.size) ++ t454)).size : Int) then ((vernierref01_Number.f kj26 ((t457 ++ ((t453.extract 1 t453.size) ++ t454)).extract 0 ((ji37) : Int).toNat)).bind fun t458 => ((vernierref07_left.f kj26 ((t457 ++ ((t453.extract 1 t453.size) ++ t454)).extract ((ji37) : Int).toNat (t457 ++ ((t453.extract 1 t453.size) ++ t454)).size) a1_5).bind fun t459 => (some (t458, t459, 0)))) else (none)) else (none)) = some (r1, r2, r3) := by first | (rw [hji37] at H; exact H) | (simp only [hji37] at H ⊢; exact H)
             (try rw [hji37] at A35)
             have hji37w : (IntKind.i64.wrap (a0 - 1)) = ji37 := (i64_w _).trans hji37
             by_cases c38 : 0 ≤ (ji37)
             ·rw [if_pos c38] at H
              have c38b0 := eq_true c38
              have c38b1 : decide (0 ≤ (ji37)) = true := decide_eq_true c38
              clear c38
              by_cases c39 : (ji37) ≤ ((t457 ++ ((t453.extract 1 t453.size) ++ t454)).size : Int)
              ·rw [if_pos c39] at H
               have c39b0 := eq_true c39
               have c39b1 : decide ((ji37) ≤ ((t457 ++ ((t453.extract 1 t453.size) ++ t454)).size : Int)) = true := decide_eq_true c39
               have c39b3 : (ji37 ≤ (t457.size : Int) + (((t453.size - 1 : Nat) : Int) + (t454.size : Int))) = True := eq_true (by have hq := c39; simp only [ByteArray.size_append, ByteArray.size_extract] at hq; omega)
               replace H := Option.bind_eq_some_iff.mp H
               obtain ⟨t458, A400, H⟩ := H
               try dsimp only at H
               have A40 := Aside0.mk A400
               clear A400
               have c41b0 := eq_true (of_decide_eq_true (by first | (with_reducible assumption) | assumption) : 0 ≤ (ji37))
               have c42b0 := eq_true (of_decide_eq_true (by first | (with_reducible assumption) | assumption) : (ji37) ≤ ((t457 ++ ((t453.extract 1 t453.size) ++ t454)).size : Int))
               replace H := Option.bind_eq_some_iff.mp H
               obtain ⟨t459, A430, H⟩ := H
               try dsimp only at H
               have A43 := Aside0.mk A430
               clear A430
               simp only [Option.some.injEq, Prod.mk.injEq] at H
               obtain ⟨rfl, rfl, rfl⟩ := H
               obtain ⟨z44_0, z44_1, z44_2, z44_3, z44_4, z44_5, y44_0, y44_1, y44_2, y44_3, y44_4, y44_5⟩ := cz6 BK449
               try go_wp2_with (first | ((with_reducible refine gate_callee (f := 161) rfl ?_); refine goA (some 76) Try.func161 (vernierref06_Head.calls kj26 a1_2 t457 _ A35.out) ?_; intro w45 hb; replace BK449 := bkB BK449 hb; replace HB := hbS hb; clear hb))
               have n0_ := Aside0.mk (blk_drew BK449.out)
               have n1_ := Aside0.mk (below_drew1 HB.out)
               clear BK449
               clear HB
               have BK449 := n0_
               have HB := n1_
               clear n0_ n1_
               refine start_ (n := 15) (S := fun w' => w'.cell? ⟨gb449, 0, none⟩ = some (.int .i64 a1_0) ∧ w'.cell? ⟨gb449, 1, none⟩ = some (.bool a1_1) ∧ w'.cell? ⟨gb449, 2, none⟩ = some (.int .i64 a1_2) ∧ w'.cell? ⟨gb449, 3, none⟩ = some (.int .u64 a1_3) ∧ w'.cell? ⟨gb449, 4, none⟩ = some (.int .u64 a1_4) ∧ w'.cell? ⟨gb449, 5, none⟩ = some (.bool a1_5)) (ds := []) #[false, false, false, false, false, false, false, false, false, false, false, false, false, false, false] (by kernel_rfl) rfl rfl ⟨(blk_cell BK449.out 0).trans rfl, (blk_cell BK449.out 1).trans rfl, (blk_cell BK449.out 2).trans rfl, (blk_cell BK449.out 3).trans rfl, (blk_cell BK449.out 4).trans rfl, (blk_cell BK449.out 5).trans rfl⟩ (fun hHeld => ?_); refine with_tabW vernierref07_Cut.tab20 vernierref07_Cut.bits20 (fun HT_ HW_ => ?_)
               generalize w45.drew = w46 at BK449 HB hHeld ⊢
               refine pure_ (i := 0) (N := some 79) (v := ?_) (a' := ?_) #[true, false, false, false, false, false, false, false, false, false, false, false, false, false, false] rfl rfl (any_of HT_.out (by kernel_rfl)) (fun _ _ _ h => h) (Or.inl ⟨by rfl, ?_⟩) ?_ ?_
               rotate_left
               ·intro w'
                go_simp
                with_reducible rfl
               rotate_left
               ·simp only [Act.put, List.setIfInBounds_toArray, List.set_cons_zero, List.set_cons_succ, i64_w, i32_w]
                rfl
               refine pure_ (i := 1) (N := some 80) (v := ?_) (a' := ?_) #[true, true, false, false, false, false, false, false, false, false, false, false, false, false, false] rfl rfl (any_of HT_.out (by kernel_rfl)) (fun _ _ _ h => h) (Or.inl ⟨by rfl, ?_⟩) ?_ ?_
               rotate_left
               ·intro w'
                go_simp
                with_reducible rfl
               rotate_left
               ·simp only [Act.put, List.setIfInBounds_toArray, List.set_cons_zero, List.set_cons_succ, i64_w, i32_w]
                rfl
               refine pure_ (i := 2) (N := some 81) (v := ?_) (a' := ?_) #[true, true, true, false, false, false, false, false, false, false, false, false, false, false, false] rfl rfl (any_of HT_.out (by kernel_rfl)) (fun _ _ _ h => h) (Or.inl ⟨by rfl, ?_⟩) ?_ ?_
               rotate_left
               ·intro w'
                go_simp
                with_reducible rfl
               rotate_left
               ·simp only [Act.put, List.setIfInBounds_toArray, List.set_cons_zero, List.set_cons_succ, i64_w, i32_w]
                rfl
               refine pure_ (i := 3) (N := some 82) (v := ?_) (a' := ?_) #[true, true, true, true, false, false, false, false, false, false, false, false, false, false, false] rfl rfl (any_of HT_.out (by kernel_rfl)) (fun _ _ _ h => h) (Or.inl ⟨by rfl, ?_⟩) ?_ ?_
               rotate_left
               ·intro w'
                go_simp
                with_reducible rfl
               rotate_left
               ·simp only [Act.put, List.setIfInBounds_toArray, List.set_cons_zero, List.set_cons_succ, i64_w, i32_w]
                rfl
               refine pure_ (i := 5) (N := some 84) (v := ?_) (a' := ?_) #[true, true, true, true, false, true, false, false, false, false, false, false, false, false, false] rfl rfl (any_of HT_.out (by kernel_rfl)) (fun _ _ _ h => h) (Or.inl ⟨by rfl, ?_⟩) ?_ ?_
               rotate_left
               ·intro w'
                go_simp
                with_reducible rfl
               rotate_left
               ·simp only [Act.put, List.setIfInBounds_toArray, List.set_cons_zero, List.set_cons_succ, i64_w, i32_w]
                rfl
               refine pure_ (i := 6) (N := some 85) (v := ?_) (a' := ?_) #[true, true, true, true, false, true, true, false, false, false, false, false, false, false, false] rfl rfl (any_of HT_.out (by kernel_rfl)) (fun _ _ _ h => h) (Or.inl ⟨by rfl, ?_⟩) ?_ ?_
               rotate_left
               ·intro w'
                go_simp
                with_reducible rfl
               rotate_left
               ·simp only [Act.put, List.setIfInBounds_toArray, List.set_cons_zero, List.set_cons_succ, i64_w, i32_w]
                rfl
               refine pure_ (i := 7) (N := some 86) (v := ?_) (a' := ?_) #[true, true, true, true, false, true, true, true, false, false, false, false, false, false, false] rfl rfl (any_of HT_.out (by kernel_rfl)) (fun _ _ _ h => h) (Or.inl ⟨by rfl, ?_⟩) ?_ ?_
               rotate_left
               ·intro w'
                go_simp
                with_reducible rfl
               rotate_left
               ·simp only [Act.put, List.setIfInBounds_toArray, List.set_cons_zero, List.set_cons_succ, i64_w, i32_w]
                rfl
               refine pure_ (i := 8) (N := some 87) (v := ?_) (a' := ?_) #[true, true, true, true, false, true, true, true, true, false, false, false, false, false, false] rfl rfl (any_of HT_.out (by kernel_rfl)) (fun _ _ _ h => h) (Or.inl ⟨by rfl, ?_⟩) ?_ ?_
               rotate_left
               ·intro w'
                go_simp
                with_reducible rfl
               rotate_left
               ·simp only [Act.put, List.setIfInBounds_toArray, List.set_cons_zero, List.set_cons_succ, i64_w, i32_w]
                rfl
               refine pure_ (i := 9) (N := some 88) (v := ?_) (a' := ?_) #[true, true, true, true, false, true, true, true, true, true, false, false, false, false, false] rfl rfl (any_of HT_.out (by kernel_rfl)) (fun _ _ _ h => h) (Or.inl ⟨by rfl, ?_⟩) ?_ ?_
               rotate_left
               ·intro w'
                go_simp
                with_reducible rfl
               rotate_left
               ·simp only [Act.put, List.setIfInBounds_toArray, List.set_cons_zero, List.set_cons_succ, i64_w, i32_w]
                rfl
               refine take_ (i := 10) (N := some 89) (v := ?_) (a' := ?_) #[true, true, true, true, false, true, true, true, true, true, true, false, false, false, false] rfl rfl (take_ofW HT_.out HW_.out (by kernel_rfl)) (fun _ _ _ h => h) (Or.inl ⟨by rfl, ?_⟩) hHeld ?_ ?_
               rotate_left
               ·rintro w' ⟨s0, s1, s2, s3, s4, s5⟩
                go_simp
                with_reducible rfl
               rotate_left
               ·simp only [Act.put, List.setIfInBounds_toArray, List.set_cons_zero, List.set_cons_succ, i64_w, i32_w]
                rfl
               refine one_ (i := 4) (N := some 83) #[true, true, true, true, true, true, true, true, true, true, true, false, false, false, false] rfl rfl (one_of HT_.out (by kernel_rfl)) (by decide) (fun K hK => ?_)
               refine goes_ Try.func109 (by kernel_rfl) rfl #[.string ((t457 ++ ((t453.extract 1 t453.size) ++ t454)).extract 0 ((ji37) : Int).toNat)] (by rfl) rfl rfl (by (try simp only [List.map_toArray, List.map_cons, List.map_nil]); first | done | (simp only [hji37]; rfl) | rfl | (simp only [List.length_drop, List.length_take]; rfl)) ?_
               with_reducible refine (vernierref01_Number.calls kj26 ((t457 ++ ((t453.extract 1 t453.size) ++ t454)).extract 0 ((ji37) : Int).toNat) t458 _ A40.out).mono ?_
               rintro e w' ⟨rfl, ⟨nd, rfl⟩⟩
               refine ⟨_, rfl, ?_⟩
               refine hK.out _ _ ⟨(blk_cell BK449.out 0).trans rfl, (blk_cell BK449.out 1).trans rfl, (blk_cell BK449.out 2).trans rfl, (blk_cell BK449.out 3).trans rfl, (blk_cell BK449.out 4).trans rfl, (blk_cell BK449.out 5).trans rfl⟩ (fun hHeld => ?_)
               clear hK K
               refine norm_ (a' := ?_) ?_ ?_
               rotate_left
               ·show Act.put _ (some 83) _ = _
                simp only [Act.put, List.setIfInBounds_toArray, List.set_cons_zero, List.set_cons_succ, i64_w, i32_w]
                rfl
               refine one_ (i := 11) (N := some 90) #[true, true, true, true, true, true, true, true, true, true, true, true, false, false, false] rfl rfl (one_of HT_.out (by kernel_rfl)) (by decide) (fun K hK => ?_)
               refine goes_ Try.func162 (by kernel_rfl) rfl #[.string ((t457 ++ ((t453.extract 1 t453.size) ++ t454)).extract ((ji37) : Int).toNat (t457 ++ ((t453.extract 1 t453.size) ++ t454)).size), .bool a1_5] (by rfl) rfl rfl (by first | (rw [show (t457 ++ ((t453.extract 1 t453.size) ++ t454)).size = t457.size + (t453.size - 1 + t454.size) by (simp only [ByteArray.size_append, ByteArray.size_extract]; omega)]; simp only [List.map_toArray, List.map_cons, List.map_nil, Act.eval]; rfl) | (try simp only [List.map_toArray, List.map_cons, List.map_nil]); first | done | (simp only [hji37]; rfl) | rfl | (simp only [List.length_drop, List.length_take]; rfl)) ?_
               with_reducible refine (vernierref07_left.calls kj26 ((t457 ++ ((t453.extract 1 t453.size) ++ t454)).extract ((ji37) : Int).toNat (t457 ++ ((t453.extract 1 t453.size) ++ t454)).size) a1_5 t459 _ A43.out).mono ?_
               rintro e w' ⟨rfl, ⟨nd, rfl⟩⟩
               refine ⟨_, rfl, ?_⟩
               refine hK.out _ _ ⟨(blk_cell BK449.out 0).trans rfl, (blk_cell BK449.out 1).trans rfl, (blk_cell BK449.out 2).trans rfl, (blk_cell BK449.out 3).trans rfl, (blk_cell BK449.out 4).trans rfl, (blk_cell BK449.out 5).trans rfl⟩ (fun hHeld => ?_)
               clear hK K
               refine norm_ (a' := ?_) ?_ ?_
               rotate_left
               ·show Act.put _ (some 90) _ = _
                simp only [Act.put, List.setIfInBounds_toArray, List.set_cons_zero, List.set_cons_succ, i64_w, i32_w]
                rfl
               refine pure_ (i := 12) (N := some 4) (v := ?_) (a' := ?_) #[true, true, true, true, true, true, true, true, true, true, true, true, true, false, false] rfl rfl (any_of HT_.out (by kernel_rfl)) (fun _ _ _ h => h) (Or.inl ⟨by rfl, ?_⟩) ?_ ?_
               rotate_left
               ·intro w'
                go_simp
                with_reducible rfl
               rotate_left
               ·simp only [Act.put, List.setIfInBounds_toArray, List.set_cons_zero, List.set_cons_succ, i64_w, i32_w]
                rfl
               refine pure_ (i := 13) (N := some 5) (v := ?_) (a' := ?_) #[true, true, true, true, true, true, true, true, true, true, true, true, true, true, false] rfl rfl (any_of HT_.out (by kernel_rfl)) (fun _ _ _ h => h) (Or.inl ⟨by rfl, ?_⟩) ?_ ?_
               rotate_left
               ·intro w'
                go_simp
                with_reducible rfl
               rotate_left
               ·simp only [Act.put, List.setIfInBounds_toArray, List.set_cons_zero, List.set_cons_succ, i64_w, i32_w]
                rfl
               refine pure_ (i := 14) (N := some 6) (v := ?_) (a' := ?_) #[true, true, true, true, true, true, true, true, true, true, true, true, true, true, true] rfl rfl (any_of HT_.out (by kernel_rfl)) (fun _ _ _ h => h) (Or.inl ⟨by rfl, ?_⟩) ?_ ?_
               rotate_left
               ·intro w'
                go_simp
                with_reducible rfl
               rotate_left
               ·simp only [Act.put, List.setIfInBounds_toArray, List.set_cons_zero, List.set_cons_succ, i64_w, i32_w]
                rfl
               refine done_ (done_of HT_.out (by kernel_rfl)) ?_
               try go_wp2
               go_ret3
               exact ⟨by first | rfl | (simp [errW_none, errW_some] <;> rfl) | (simp only [← hji37]; first | rfl | (simp [errW_none, errW_some] <;> rfl)) | (simp [*, errW_none, errW_some] <;> rfl), hbT⟩
              ·rw [if_neg c39] at H
               exact absurd H (by simp)
             ·rw [if_neg c38] at H
              exact absurd H (by simp)
            ·rw [if_neg c36] at H
             exact absurd H (by simp)
     ·rw [if_neg c11] at H
      exact absurd H (by simp)
    ·rw [if_neg c9] at H
     exact absurd H (by simp)
   ·rw [if_neg c7] at H
    obtain ⟨c7b0, c7b1⟩ := eqN c7
    by_cases c47 : a1_0 = 2
    ·rw [if_pos c47] at H
     obtain ⟨c47b0, c47b1⟩ := eqY c47
     clear c47
     replace H := Option.bind_eq_some_iff.mp H
     obtain ⟨t452, A480, H⟩ := H
     try dsimp only at H
     have A48 := Aside0.mk A480
     clear A480
     simp only [Option.some.injEq, Prod.mk.injEq] at H
     obtain ⟨rfl, rfl, rfl⟩ := H
     go_enter Try.func134, Try.ntmps134
     go_wp2_with (first | ((with_reducible refine gate_dst (N := 3) rfl ?_); refine boxA 3 (#[.int .i64 a1_0, .bool a1_1, .int .i64 a1_2, .int .u64 a1_3, .int .u64 a1_4, .bool a1_5]) 86 ?_; intro gb449 hg w49 BK449 hb; have GW449 := geT hg; have GE449 := GW449; replace HB := hbS hb; clear hb hg) | ((with_reducible refine gate_callee (f := 48) rfl ?_); refine goesL_ (some 15) rfl rfl Try.func48 (by kernel_rfl) rfl #[.int .i64 a0] rfl (by (try simp only [List.map_toArray, List.map_cons, List.map_nil]); first | done | rfl | (simp only [List.length_drop, List.length_take]; rfl)) ?_; (with_reducible refine (vernierref05_Is.calls a0 true _ A3.out).mono ?_); rintro e w' ⟨rfl, ⟨nd, rfl⟩⟩; refine ⟨_, rfl, ?_⟩; obtain ⟨z50_0, z50_1, z50_2, z50_3, z50_4, z50_5, y50_0, y50_1, y50_2, y50_3, y50_4, y50_5⟩ := cz6 BK449) | ((with_reducible refine gate_callee (f := 92) rfl ?_); refine goA (some 17) Try.func92 (vernierref07_Sound.calls a1_0 a1_1 a1_2 a1_3 a1_4 a1_5 true _ A4.out) ?_; intro w51 hb; replace BK449 := bkB BK449 hb; replace HB := hbS hb; clear hb; obtain ⟨z52_0, z52_1, z52_2, z52_3, z52_4, z52_5, y52_0, y52_1, y52_2, y52_3, y52_4, y52_5⟩ := cz6 BK449) | ((with_reducible refine gate_callee (f := 53) rfl ?_); refine goesL_ (some 30) rfl rfl Try.func53 (by kernel_rfl) rfl #[.int .i64 (wrap64 (a0 - 1))] rfl (by (try simp only [List.map_toArray, List.map_cons, List.map_nil]); first | done | rfl | (simp only [List.length_drop, List.length_take]; rfl)) ?_; (with_reducible refine (vernierref05_Power.calls k (wrap64 (a0 - 1)) t452 _ A48.out).mono ?_); rintro e w' ⟨rfl, ⟨nd, rfl⟩⟩; refine ⟨_, rfl, ?_⟩))
     go_ret3
     exact ⟨reT, hbT⟩
    ·rw [if_neg c47] at H
     obtain ⟨c47b0, c47b1⟩ := eqN c47
     simp only [Option.some.injEq, Prod.mk.injEq] at H
     obtain ⟨rfl, rfl, rfl⟩ := H
     go_enter Try.func134, Try.ntmps134
     go_wp2_with (first | ((with_reducible refine gate_dst (N := 3) rfl ?_); refine boxA 3 (#[.int .i64 a1_0, .bool a1_1, .int .i64 a1_2, .int .u64 a1_3, .int .u64 a1_4, .bool a1_5]) 86 ?_; intro gb449 hg w53 BK449 hb; have GW449 := geT hg; have GE449 := GW449; replace HB := hbS hb; clear hb hg) | ((with_reducible refine gate_callee (f := 48) rfl ?_); refine goesL_ (some 15) rfl rfl Try.func48 (by kernel_rfl) rfl #[.int .i64 a0] rfl (by (try simp only [List.map_toArray, List.map_cons, List.map_nil]); first | done | rfl | (simp only [List.length_drop, List.length_take]; rfl)) ?_; (with_reducible refine (vernierref05_Is.calls a0 true _ A3.out).mono ?_); rintro e w' ⟨rfl, ⟨nd, rfl⟩⟩; refine ⟨_, rfl, ?_⟩; obtain ⟨z54_0, z54_1, z54_2, z54_3, z54_4, z54_5, y54_0, y54_1, y54_2, y54_3, y54_4, y54_5⟩ := cz6 BK449) | ((with_reducible refine gate_callee (f := 92) rfl ?_); refine goA (some 17) Try.func92 (vernierref07_Sound.calls a1_0 a1_1 a1_2 a1_3 a1_4 a1_5 true _ A4.out) ?_; intro w55 hb; replace BK449 := bkB BK449 hb; replace HB := hbS hb; clear hb; obtain ⟨z56_0, z56_1, z56_2, z56_3, z56_4, z56_5, y56_0, y56_1, y56_2, y56_3, y56_4, y56_5⟩ := cz6 BK449))
     go_ret3
     exact ⟨reT, hbT⟩
  ·replace c6 := Bool.eq_false_iff.mpr c6
   subst c6
   rw [if_neg (show ¬ (false = true) by decide)] at H
   simp only [Option.some.injEq, Prod.mk.injEq] at H
   obtain ⟨rfl, rfl, rfl⟩ := H
   go_enter Try.func134, Try.ntmps134
   go_wp2_with (first | ((with_reducible refine gate_dst (N := 3) rfl ?_); refine boxA 3 (#[.int .i64 a1_0, .bool a1_1, .int .i64 a1_2, .int .u64 a1_3, .int .u64 a1_4, .bool a1_5]) 86 ?_; intro gb449 hg w57 BK449 hb; have GW449 := geT hg; have GE449 := GW449; replace HB := hbS hb; clear hb hg) | ((with_reducible refine gate_callee (f := 48) rfl ?_); refine goesL_ (some 15) rfl rfl Try.func48 (by kernel_rfl) rfl #[.int .i64 a0] rfl (by (try simp only [List.map_toArray, List.map_cons, List.map_nil]); first | done | rfl | (simp only [List.length_drop, List.length_take]; rfl)) ?_; (with_reducible refine (vernierref05_Is.calls a0 true _ A3.out).mono ?_); rintro e w' ⟨rfl, ⟨nd, rfl⟩⟩; refine ⟨_, rfl, ?_⟩; obtain ⟨z58_0, z58_1, z58_2, z58_3, z58_4, z58_5, y58_0, y58_1, y58_2, y58_3, y58_4, y58_5⟩ := cz6 BK449) | ((with_reducible refine gate_callee (f := 92) rfl ?_); refine goA (some 17) Try.func92 (vernierref07_Sound.calls a1_0 a1_1 a1_2 a1_3 a1_4 a1_5 false _ A4.out) ?_; intro w59 hb; replace BK449 := bkB BK449 hb; replace HB := hbS hb; clear hb))
   go_ret3
   exact ⟨reT, hbT⟩
 ·replace c5 := Bool.eq_false_iff.mpr c5
  subst c5
  rw [if_neg (show ¬ (false = true) by decide)] at H
  simp only [Option.some.injEq, Prod.mk.injEq] at H
  obtain ⟨rfl, rfl, rfl⟩ := H
  go_enter Try.func134, Try.ntmps134
  go_wp2_with (first | ((with_reducible refine gate_dst (N := 3) rfl ?_); refine boxA 3 (#[.int .i64 a1_0, .bool a1_1, .int .i64 a1_2, .int .u64 a1_3, .int .u64 a1_4, .bool a1_5]) 86 ?_; intro gb449 hg w60 BK449 hb; have GW449 := geT hg; have GE449 := GW449; replace HB := hbS hb; clear hb hg) | ((with_reducible refine gate_callee (f := 48) rfl ?_); refine goesL_ (some 15) rfl rfl Try.func48 (by kernel_rfl) rfl #[.int .i64 a0] rfl (by (try simp only [List.map_toArray, List.map_cons, List.map_nil]); first | done | rfl | (simp only [List.length_drop, List.length_take]; rfl)) ?_; (with_reducible refine (vernierref05_Is.calls a0 false _ A3.out).mono ?_); rintro e w' ⟨rfl, ⟨nd, rfl⟩⟩; refine ⟨_, rfl, ?_⟩; obtain ⟨z61_0, z61_1, z61_2, z61_3, z61_4, z61_5, y61_0, y61_1, y61_2, y61_3, y61_4, y61_5⟩ := cz6 BK449) | ((with_reducible refine gate_callee (f := 92) rfl ?_); refine goA (some 17) Try.func92 (vernierref07_Sound.calls a1_0 a1_1 a1_2 a1_3 a1_4 a1_5 t451 _ A4.out) ?_; intro w62 hb; replace BK449 := bkB BK449 hb; replace HB := hbS hb; clear hb))
  go_ret3
  exact ⟨reT, hbT⟩
end Go.Proofs.Ytnlbfomlfhigcaa.Q
namespace Go.Proofs.Ytnlbfomlfhigcaa.Q
open Go.RowKit Go.Proofs.YtnlbfomlfhigcaaW.PrintWords Go.Proofs.YtnlbfomlfhigcaaW.PrintLast Go.Proofs.YtnlbfomlfhigcaaW.PrintMore
attribute [local go_sem] max2_int min2_int max_two min_two max_three min_three max_four min_four
set_option linter.unusedVariables false
set_option linter.unusedSimpArgs false
def vernierref06_Fold.f (k : Nat) (a0 : Int) (a1 : Int) : Option (Int) := (vernierref05_Fold.f k a0 a1).bind fun bt460 => (some bt460.1)
set_option maxHeartbeats 8000000 in
set_option maxRecDepth 100000 in
theorem vernierref06_Fold.calls (k : Nat) (a0 : Int) (a1 : Int) (r : Int) (w : World) (h : vernierref06_Fold.f k a0 a1 = some r) :
  Calls Try.prog 49 #[.int .i64 a0, .int .u64 a1] w fun e w' => e = .returned (.int .u64 r) ∧ Below w.heap.size w w' := by
 have HB := Aside0.mk (Below.refl w.heap.size w)
 have H := h
 clear h
 unfold vernierref06_Fold.f at H
 replace H := Option.bind_eq_some_iff.mp H
 obtain ⟨⟨t460, t461⟩, A30, H⟩ := H
 try dsimp only at H
 have A3 := Aside0.mk A30
 clear A30
 obtain rfl := Option.some.inj H
 go_enter Try.func49, Try.ntmps49
 go_wp2_with (first | ((with_reducible refine gate_callee (f := 89) rfl ?_); refine goA (some 10) Try.func89 (vernierref05_Fold.calls k a0 a1 t460 t461 _ A3.out) ?_; intro w4 hb; replace HB := hbS hb; clear hb))
 go_ret
 exact ⟨reT, hbT⟩
end Go.Proofs.Ytnlbfomlfhigcaa.Q
namespace Go.Proofs.Ytnlbfomlfhigcaa.Q
open Go.RowKit Go.Proofs.YtnlbfomlfhigcaaW.PrintWords Go.Proofs.YtnlbfomlfhigcaaW.PrintLast Go.Proofs.YtnlbfomlfhigcaaW.PrintMore
attribute [local go_sem] max2_int min2_int max_two min_two max_three min_three max_four min_four
set_option linter.unusedVariables false
set_option linter.unusedSimpArgs false
def vernierref06_Neg.f (k : Nat) (a0 : Int) (a1 : Int) : Option (Int) := (vernierref06_Fold.f k a0 (IntKind.u64.wrap (-a1))).bind fun t462 => (some t462)
set_option maxHeartbeats 8000000 in
set_option maxRecDepth 100000 in
theorem vernierref06_Neg.calls (k : Nat) (a0 : Int) (a1 : Int) (r : Int) (w : World) (h : vernierref06_Neg.f k a0 a1 = some r) :
  Calls Try.prog 135 #[.int .i64 a0, .int .u64 a1] w fun e w' => e = .returned (.int .u64 r) ∧ Below w.heap.size w w' := by
 have HB := Aside0.mk (Below.refl w.heap.size w)
 have H := h
 clear h
 unfold vernierref06_Neg.f at H
 replace H := Option.bind_eq_some_iff.mp H
 obtain ⟨t462, A30, H⟩ := H
 try dsimp only at H
 have A3 := Aside0.mk A30
 clear A30
 obtain rfl := Option.some.inj H
 go_enter Try.func135, Try.ntmps135
 go_wp2_with (first | ((with_reducible refine gate_callee (f := 49) rfl ?_); refine goA (some 8) Try.func49 (vernierref06_Fold.calls k a0 (IntKind.u64.wrap (-a1)) t462 _ A3.out) ?_; intro w4 hb; replace HB := hbS hb; clear hb))
 go_ret
 exact ⟨reT, hbT⟩
end Go.Proofs.Ytnlbfomlfhigcaa.Q
