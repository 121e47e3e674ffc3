/- Walks and plain laws that the claim stands on: each theorem named calls says that a call of a function returns what its f computes; the others are plain laws of these f. -/
import Derived.Test.YtnlbfomlfhigcaaG0123456a
import Derived.Test.YtnlbfomlfhigcaaG01235a
namespace Go.Proofs.Ytnlbfomlfhigcaa.Q
open Go.RowKit Go.Proofs.YtnlbfomlfhigcaaW.PrintWords Go.Proofs.YtnlbfomlfhigcaaW.PrintLast Go.Proofs.YtnlbfomlfhigcaaW.PrintMore
attribute [local go_sem] max2_int min2_int max_two min_two max_three min_three max_four min_four
set_option linter.unusedVariables false
set_option linter.unusedSimpArgs false

mutual
def vernierref01_Extend.j0 : Nat → Int → Int → Bool → Option (Int × Int)
 | 0, _, _, _ => none
 | k + 1, x0, x1, x14 => if x14 = true then (some (0, 1)) else ((vernierref01_Text.f k x0 x1).bind fun t563 => (if 0 < (t563.size : Int) then (if (bt t563 0) = 49 then (vernierref01_Extend.j1 k x1 t563 (-1)) else (vernierref01_Extend.j1 k x1 t563 0)) else (none)))
def vernierref01_Extend.j1 : Nat → Int → ByteArray → Int → Option (Int × Int)
 | 0, _, _, _ => none
 | k + 1, x1, x6, x7 => vernierref01_Extend.l0 k x1 x6 x7 1
def vernierref01_Extend.l0 : Nat → Int → ByteArray → Int → Int → Option (Int × Int)
 | 0, _, _, _, _ => none
 | k + 1, x1, x6, x7, x8 => if x8 < x1 then (if 0 ≤ x8 then (if x8 < (x6.size : Int) then (vernierref01_Extend.l0 k x1 x6 (wrap64 ((wrap64 (2 * x7)) + (((bt x6 x8) - 48) % 256))) (wrap64 (x8 + 1))) else (none)) else (none)) else (some (x7, 0))
end
def vernierref01_Extend.f (k : Nat) (a0 : Int) (a1 : Int) : Option (Int × Int) := if a1 < 1 then (vernierref01_Extend.j0 k a0 a1 true) else (vernierref01_Extend.j0 k a0 a1 (decide (a1 > 64)))
theorem vernierref01_Extend.mono_l : ∀ k, (∀ y0 y1 y2, LeO (vernierref01_Extend.j0 k y0 y1 y2) (vernierref01_Extend.j0 (k + 1) y0 y1 y2)) ∧ (∀ y0 y1 y2, LeO (vernierref01_Extend.j1 k y0 y1 y2) (vernierref01_Extend.j1 (k + 1) y0 y1 y2)) ∧ (∀ y0 y1 y2 y3, LeO (vernierref01_Extend.l0 k y0 y1 y2 y3) (vernierref01_Extend.l0 (k + 1) y0 y1 y2 y3))
 | 0 => ⟨fun _ _ _ r h => by simp [vernierref01_Extend.j0] at h, fun _ _ _ r h => by simp [vernierref01_Extend.j1] at h, fun _ _ _ _ r h => by simp [vernierref01_Extend.l0] at h⟩
 | k + 1 => by
  obtain ⟨ih0, ih1, ih2⟩ := vernierref01_Extend.mono_l k
  refine ⟨?_, ?_, ?_⟩ <;> intros
  all_goals first | unfold vernierref01_Extend.j0 | unfold vernierref01_Extend.j1 | unfold vernierref01_Extend.l0
  all_goals repeat' first
   | (with_reducible exact ih0 _ _ _)
   | (with_reducible exact ih1 _ _ _)
   | (with_reducible exact ih2 _ _ _ _)
   | (with_reducible exact vernierref01_Text.mono _ _ _)
   | (with_reducible exact LeO.refl _)
   | (with_reducible exact LeO.none _)
   | (with_reducible refine LeO.ite ?_ ?_)
   | (with_reducible refine LeO.bind ?_ (fun _ => ?_))
theorem vernierref01_Extend.mono : ∀ a0 a1 k, LeO (vernierref01_Extend.f k a0 a1) (vernierref01_Extend.f (k + 1) a0 a1) := by
 intro a0 a1 k
 obtain ⟨ih0, ih1, ih2⟩ := vernierref01_Extend.mono_l k
 unfold vernierref01_Extend.f
 repeat' first
   | (with_reducible exact ih0 _ _ _)
   | (with_reducible exact ih1 _ _ _)
   | (with_reducible exact ih2 _ _ _ _)
   | (with_reducible exact vernierref01_Text.mono _ _ _)
   | (with_reducible exact LeO.refl _)
   | (with_reducible exact LeO.none _)
   | (with_reducible refine LeO.ite ?_ ?_)
   | (with_reducible refine LeO.bind ?_ (fun _ => ?_))
set_option maxHeartbeats 8000000 in
set_option maxRecDepth 100000 in
theorem vernierref01_Extend.calls (k : Nat) (a0 : Int) (a1 : Int) (r1 : Int) (r2 : Int) (w : World) (h : vernierref01_Extend.f k a0 a1 = some (r1, r2)) :
  Calls Try.prog 136 #[.int .u64 a0, .int .i64 a1] w fun e w' => e = .returned (.tuple #[.int .i64 r1, .int .i64 r2]) ∧ Below w.heap.size w w' := by
 have HB := Aside0.mk (Below.refl w.heap.size w)
 have H := h
 clear h
 unfold vernierref01_Extend.f at H
 have HC3 := Aside0.mk H
 clear H
 go_enter Try.func136, Try.ntmps136
 go_upto_region 1 with (fail)
 go_cut [14] (fun v14 wc => ∃ (kq : Nat) (x14_2 : Bool), v14 = .bool x14_2 ∧ Aside0 (vernierref01_Extend.j0 kq a0 a1 x14_2 = some (r1, r2)) ∧ Aside0 (kq ≤ k) ∧ Aside0 (Below w.heap.size w wc))
 case first =>
  have H := HC3.out
  clear HC3
  by_cases c4 : a1 < 1
  ·rw [if_pos c4] at H
   have c4b0 : decide (a1 < 1) = true := decide_eq_true c4
   clear c4
   (first | rw [c4b0] | (simp only [i64_w, i32_w]; rw [c4b0]) | rw [c4b1] | skip)
   have H' := Aside0.mk H
   clear H
   go_wp2
   go_meet
   case rel => exact ⟨_, (true), okT, H', leT, ⟨hbT⟩⟩
  ·rw [if_neg c4] at H
   have c4b0 : decide (a1 < 1) = false := decide_eq_false c4
   clear c4
   (first | rw [c4b0] | (simp only [i64_w, i32_w]; rw [c4b0]) | rw [c4b1] | skip)
   have H' := Aside0.mk H
   clear H
   go_wp2
   go_meet
   case rel => exact ⟨_, (decide (a1 > 64)), okT, H', leT, ⟨hbT⟩⟩
 case rest =>
  clear HC3
  obtain ⟨kq, x14_2, rfl, HA, HJ2, HB⟩ := hcut
  cases kq with
  | zero => exact absurd HA.out (by simp [vernierref01_Extend.j0])
  | succ kj2 =>
   have H := HA.out
   clear HA
   simp only [vernierref01_Extend.j0] at H
   by_cases c5 : x14_2 = true
   ·subst c5
    rw [if_pos rfl] at H
    simp only [Option.some.injEq, Prod.mk.injEq] at H
    obtain ⟨rfl, rfl⟩ := H
    go_wp2
    go_ret2
    exact ⟨reT, hbT⟩
   ·replace c5 := Bool.eq_false_iff.mpr c5
    subst c5
    rw [if_neg (show ¬ (false = true) by decide)] at H
    replace H := Option.bind_eq_some_iff.mp H
    obtain ⟨t563, A60, H⟩ := H
    try dsimp only at H
    have A6 := Aside0.mk A60
    clear A60
    by_cases c7 : 0 < (t563.size : Int)
    ·rw [if_pos c7] at H
     have c7b0 : decide (0 < (t563.size : Int)) = true := decide_eq_true c7
     have c7b1 : decide (0 < t563.size) = true := decide_eq_true (by omega)
     clear c7
     have HC9 := Aside0.mk H
     clear H
     go_upto_if 20 with (first | ((with_reducible refine gate_callee (f := 110) rfl ?_); refine goA (some 17) Try.func110 (vernierref01_Text.calls kj2 a0 a1 t563 _ A6.out) ?_; intro w10 hb; replace HB := hbS hb; clear hb; have p8 : 0 ≤ (0 : Int) := (by omega); have q8 : 0 < t563.size := (by have : (0 : Int) < (t563.size : Int) := of_decide_eq_true (by first | (with_reducible assumption) | assumption); omega); have hx8 : ∀ h : 0 < t563.size, ((t563[0]'h).toNat : Int) = bt t563 0 := bt_at t563 0; clear p8; have qi8 : (0 < (t563.size : Int)) = True := eq_true (of_decide_eq_true (by first | (with_reducible assumption) | assumption)); replace q8 := eq_true q8))
     (try simp only [Act.put, List.setIfInBounds_toArray, List.set_cons_zero, List.set_cons_succ])
     go_cut [7] (fun v7 wc => ∃ (kq : Nat) (x7_8 : Int), v7 = .int .i64 x7_8 ∧ Aside0 (vernierref01_Extend.j1 kq a1 t563 x7_8 = some (r1, r2)) ∧ Aside0 (kq ≤ kj2) ∧ Aside0 (Below w.heap.size w wc))
     case first =>
      have H := HC9.out
      clear HC9
      by_cases c11 : (bt t563 0) = 49
      ·rw [if_pos c11] at H
       obtain ⟨c11b0, c11b1⟩ := eqY c11
       clear c11
       (first | rw [c11b0] | (simp only [i64_w, i32_w]; rw [c11b0]) | rw [c11b1] | skip)
       have H' := Aside0.mk H
       clear H
       go_wp2
       go_meet
       case rel => exact ⟨_, ((-1)), okT, H', ⟨by have := HJ2.out; first | omega | exact Nat.le_refl _⟩, ⟨hbT⟩⟩
      ·rw [if_neg c11] at H
       obtain ⟨c11b0, c11b1⟩ := eqN c11
       (first | rw [c11b0] | (simp only [i64_w, i32_w]; rw [c11b0]) | rw [c11b1] | skip)
       have H' := Aside0.mk H
       clear H
       go_wp2
       go_meet
       case rel => exact ⟨_, (0), okT, H', ⟨by have := HJ2.out; first | omega | exact Nat.le_refl _⟩, ⟨hbT⟩⟩
     case rest =>
      clear HC9
      try clear c5
      try clear c7
      try clear c7b0
      try clear c7b1
      try clear p8 p8
      try clear q8 q8
      try clear hx8
      try clear qi8
      obtain ⟨kq, x7_8, rfl, HA, HJ8, HB⟩ := hcut
      cases kq with
      | zero => exact absurd HA.out (by simp [vernierref01_Extend.j1])
      | succ kj8 =>
       have H := HA.out
       clear HA
       simp only [vernierref01_Extend.j1] at H
       have H' := Aside0.mk H
       clear H
       go_wp2
       go_loopg [7, 8] kj8 (fun kq v7 v8 w' => ∃ (x7_3 : Int) (x8_3 : Int), v7 = .int .i64 x7_3 ∧ v8 = .int .i64 x8_3 ∧ Aside0 (vernierref01_Extend.l0 kq a1 t563 x7_3 x8_3 = some (r1, r2)) ∧ Aside0 (kq ≤ kj8) ∧ Aside0 (Below w.heap.size w w'))
       case atStart => exact ⟨(x7_8), (1), okT, okT, H', ⟨Nat.le_refl _⟩, ⟨hbT⟩⟩
       case round =>
        clear H'
        obtain ⟨x7_3, x8_3, rfl, rfl, HA, HK3, HB⟩ := hrel
        cases gk with
        | zero => exact absurd HA.out (by simp [vernierref01_Extend.l0])
        | succ k3 =>
         have H := HA.out
         clear HA
         simp only [vernierref01_Extend.l0] at H
         by_cases c12 : x8_3 < a1
         ·rw [if_pos c12] at H
          have c12b0 : decide (x8_3 < a1) = true := decide_eq_true c12
          clear c12
          by_cases c13 : 0 ≤ x8_3
          ·rw [if_pos c13] at H
           have c13b0 : decide (0 ≤ x8_3) = true := decide_eq_true c13
           clear c13
           by_cases c14 : x8_3 < (t563.size : Int)
           ·rw [if_pos c14] at H
            have c14b0 : decide (x8_3 < (t563.size : Int)) = true := decide_eq_true c14
            clear c14
            have H' := Aside0.mk H
            clear H
            have p15 : 0 ≤ (x8_3 : Int) := of_decide_eq_true (by first | (with_reducible assumption) | assumption)
            have q15 : x8_3 < (t563.size : Int) := of_decide_eq_true (by first | (with_reducible assumption) | assumption)
            have hx15 := bt_at t563 x8_3
            replace p15 := eq_true p15
            replace q15 := eq_true q15
            go_wp2
            go_roundg k3
            case measure => have := HJ2.out; have := HJ8.out; have := HK3.out; omega
            case rel => exact ⟨(wrap64 ((wrap64 (2 * x7_3)) + (((bt t563 x8_3) - 48) % 256))), (wrap64 (x8_3 + 1)), okT, okT, H', ⟨by have := HJ2.out; have := HJ8.out; have := HK3.out; omega⟩, ⟨hbT⟩⟩
           ·rw [if_neg c14] at H
            exact absurd H (by simp)
          ·rw [if_neg c13] at H
           exact absurd H (by simp)
         ·rw [if_neg c12] at H
          have c12b0 : decide (x8_3 < a1) = false := decide_eq_false c12
          clear c12
          simp only [Option.some.injEq, Prod.mk.injEq] at H
          obtain ⟨rfl, rfl⟩ := H
          go_wp2
          go_ret2
          exact ⟨reT, hbT⟩
    ·rw [if_neg c7] at H
     exact absurd H (by simp)

end Go.Proofs.Ytnlbfomlfhigcaa.Q
namespace Go.Proofs.Ytnlbfomlfhigcaa.Q
open Go.RowKit Go.Proofs.YtnlbfomlfhigcaaW.PrintWords Go.Proofs.YtnlbfomlfhigcaaW.PrintLast Go.Proofs.YtnlbfomlfhigcaaW.PrintMore
attribute [local go_sem] max2_int min2_int max_two min_two max_three min_three max_four min_four
set_option linter.unusedVariables false
set_option linter.unusedSimpArgs false

def vernierref05_Rank.f (k : Nat) (a0 : Int) (a1 : Int) : Option (Int × Int) := (vernierref05_Is.f a0).bind fun t564 => (if t564 = true then ((vernierref01_Extend.f k a1 a0).bind fun bt565 => (some (bt565.1, 0))) else (some (0, 2)))
theorem vernierref05_Rank.mono : ∀ a0 a1 k, LeO (vernierref05_Rank.f k a0 a1) (vernierref05_Rank.f (k + 1) a0 a1) := by
 intro a0 a1 k
 unfold vernierref05_Rank.f
 repeat' first
   | (with_reducible exact vernierref01_Extend.mono _ _ _)
   | (with_reducible exact LeO.refl _)
   | (with_reducible exact LeO.none _)
   | (with_reducible refine LeO.ite ?_ ?_)
   | (with_reducible refine LeO.bind ?_ (fun _ => ?_))
set_option maxHeartbeats 8000000 in
set_option maxRecDepth 100000 in
theorem vernierref05_Rank.calls (k : Nat) (a0 : Int) (a1 : Int) (r1 : Int) (r2 : Int) (w : World) (h : vernierref05_Rank.f k a0 a1 = some (r1, r2)) :
  Calls Try.prog 111 #[.int .i64 a0, .int .u64 a1] w fun e w' => e = .returned (.tuple #[.int .i64 r1, .int .i64 r2]) ∧ Below w.heap.size w w' := by
 have HB := Aside0.mk (Below.refl w.heap.size w)
 have H := h
 clear h
 unfold vernierref05_Rank.f at H
 replace H := Option.bind_eq_some_iff.mp H
 obtain ⟨t564, A30, H⟩ := H
 try dsimp only at H
 have A3 := Aside0.mk A30
 clear A30
 by_cases c4 : t564 = true
 ·subst c4
  rw [if_pos rfl] at H
  replace H := Option.bind_eq_some_iff.mp H
  obtain ⟨⟨t565, t566⟩, A50, H⟩ := H
  try dsimp only at H
  have A5 := Aside0.mk A50
  clear A50
  simp only [Option.some.injEq, Prod.mk.injEq] at H
  obtain ⟨rfl, rfl⟩ := H
  go_enter Try.func111, Try.ntmps111
  go_wp2_with (first | ((with_reducible refine gate_callee (f := 48) rfl ?_); refine goesL_ (some 10) rfl rfl Try.func48 (by kernel_rfl) rfl #[.int .i64 a0] rfl (by (try simp only [List.map_toArray, List.map_cons, List.map_nil]); first | done | rfl | (simp only [List.length_drop, List.length_take]; rfl)) ?_; (with_reducible refine (vernierref05_Is.calls a0 true _ A3.out).mono ?_); rintro e w' ⟨rfl, ⟨nd, rfl⟩⟩; refine ⟨_, rfl, ?_⟩) | ((with_reducible refine gate_callee (f := 136) rfl ?_); refine goA (some 16) Try.func136 (vernierref01_Extend.calls k a1 a0 t565 t566 _ A5.out) ?_; intro w6 hb; replace HB := hbS hb; clear hb))
  go_ret2
  exact ⟨reT, hbT⟩
 ·replace c4 := Bool.eq_false_iff.mpr c4
  subst c4
  rw [if_neg (show ¬ (false = true) by decide)] at H
  simp only [Option.some.injEq, Prod.mk.injEq] at H
  obtain ⟨rfl, rfl⟩ := H
  go_enter Try.func111, Try.ntmps111
  go_wp2_with (first | ((with_reducible refine gate_callee (f := 48) rfl ?_); refine goesL_ (some 10) rfl rfl Try.func48 (by kernel_rfl) rfl #[.int .i64 a0] rfl (by (try simp only [List.map_toArray, List.map_cons, List.map_nil]); first | done | rfl | (simp only [List.length_drop, List.length_take]; rfl)) ?_; (with_reducible refine (vernierref05_Is.calls a0 false _ A3.out).mono ?_); rintro e w' ⟨rfl, ⟨nd, rfl⟩⟩; refine ⟨_, rfl, ?_⟩))
  go_ret2
  exact ⟨reT, hbT⟩

end Go.Proofs.Ytnlbfomlfhigcaa.Q
namespace Go.Proofs.Ytnlbfomlfhigcaa.Q
open Go.RowKit Go.Proofs.YtnlbfomlfhigcaaW.PrintWords Go.Proofs.YtnlbfomlfhigcaaW.PrintLast Go.Proofs.YtnlbfomlfhigcaaW.PrintMore
attribute [local go_sem] max2_int min2_int max_two min_two max_three min_three max_four min_four
set_option linter.unusedVariables false
set_option linter.unusedSimpArgs false

def vernierref08_Cmps.f (k : Nat) (a0 : Int) (a1 : Int) (a2 : Int) : Option (Int × Int) := (vernierref05_Rank.f k a0 a1).bind fun bt567 => ((vernierref05_Rank.f k a0 a2).bind fun bt569 => (if bt567.2 = 0 then (if bt567.1 < bt569.1 then (some ((-1), 0)) else (if bt567.1 > bt569.1 then (some (1, 0)) else (some (0, 0)))) else (some (0, bt567.2))))
theorem vernierref08_Cmps.mono : ∀ a0 a1 a2 k, LeO (vernierref08_Cmps.f k a0 a1 a2) (vernierref08_Cmps.f (k + 1) a0 a1 a2) := by
 intro a0 a1 a2 k
 unfold vernierref08_Cmps.f
 repeat' first
   | (with_reducible exact vernierref05_Rank.mono _ _ _)
   | (with_reducible exact LeO.refl _)
   | (with_reducible exact LeO.none _)
   | (with_reducible refine LeO.ite ?_ ?_)
   | (with_reducible refine LeO.bind ?_ (fun _ => ?_))
set_option maxHeartbeats 8000000 in
set_option maxRecDepth 100000 in
theorem vernierref08_Cmps.calls (k : Nat) (a0 : Int) (a1 : Int) (a2 : Int) (r1 : Int) (r2 : Int) (w : World) (h : vernierref08_Cmps.f k a0 a1 a2 = some (r1, r2)) :
  Calls Try.prog 90 #[.int .i64 a0, .int .u64 a1, .int .u64 a2] w fun e w' => e = .returned (.tuple #[.int .i64 r1, .int .i64 r2]) ∧ Below w.heap.size w w' := by
 have HB := Aside0.mk (Below.refl w.heap.size w)
 have H := h
 clear h
 unfold vernierref08_Cmps.f at H
 replace H := Option.bind_eq_some_iff.mp H
 obtain ⟨⟨t567, t568⟩, A40, H⟩ := H
 try dsimp only at H
 have A4 := Aside0.mk A40
 clear A40
 replace H := Option.bind_eq_some_iff.mp H
 obtain ⟨⟨t569, t570⟩, A50, H⟩ := H
 try dsimp only at H
 have A5 := Aside0.mk A50
 clear A50
 by_cases c6 : t568 = 0
 ·rw [if_pos c6] at H
  obtain ⟨c6b0, c6b1⟩ := eqY c6
  clear c6
  by_cases c7 : t567 < t569
  ·rw [if_pos c7] at H
   have c7b0 : decide (t567 < t569) = true := decide_eq_true c7
   clear c7
   simp only [Option.some.injEq, Prod.mk.injEq] at H
   obtain ⟨rfl, rfl⟩ := H
   go_enter Try.func90, Try.ntmps90
   go_wp2_with (first | ((with_reducible refine gate_callee (f := 111) rfl ?_); refine goA (some 15) Try.func111 (vernierref05_Rank.calls k a0 a1 t567 t568 _ A4.out) ?_; intro w8 hb; replace HB := hbS hb; clear hb) | ((with_reducible refine gate_callee (f := 111) rfl ?_); refine goA (some 21) Try.func111 (vernierref05_Rank.calls k a0 a2 t569 t570 _ A5.out) ?_; intro w9 hb; replace HB := hbS hb; clear hb))
   go_ret2
   exact ⟨reT, hbT⟩
  ·rw [if_neg c7] at H
   have c7b0 : decide (t567 < t569) = false := decide_eq_false c7
   clear c7
   by_cases c10 : t567 > t569
   ·rw [if_pos c10] at H
    have c10b0 : decide (t569 < t567) = true := decide_eq_true c10
    clear c10
    simp only [Option.some.injEq, Prod.mk.injEq] at H
    obtain ⟨rfl, rfl⟩ := H
    go_enter Try.func90, Try.ntmps90
    go_wp2_with (first | ((with_reducible refine gate_callee (f := 111) rfl ?_); refine goA (some 15) Try.func111 (vernierref05_Rank.calls k a0 a1 t567 t568 _ A4.out) ?_; intro w11 hb; replace HB := hbS hb; clear hb) | ((with_reducible refine gate_callee (f := 111) rfl ?_); refine goA (some 21) Try.func111 (vernierref05_Rank.calls k a0 a2 t569 t570 _ A5.out) ?_; intro w12 hb; replace HB := hbS hb; clear hb))
    go_ret2
    exact ⟨reT, hbT⟩
   ·rw [if_neg c10] at H
    have c10b0 : decide (t569 < t567) = false := decide_eq_false c10
    clear c10
    simp only [Option.some.injEq, Prod.mk.injEq] at H
    obtain ⟨rfl, rfl⟩ := H
    go_enter Try.func90, Try.ntmps90
    go_wp2_with (first | ((with_reducible refine gate_callee (f := 111) rfl ?_); refine goA (some 15) Try.func111 (vernierref05_Rank.calls k a0 a1 t567 t568 _ A4.out) ?_; intro w13 hb; replace HB := hbS hb; clear hb) | ((with_reducible refine gate_callee (f := 111) rfl ?_); refine goA (some 21) Try.func111 (vernierref05_Rank.calls k a0 a2 t569 t570 _ A5.out) ?_; intro w14 hb; replace HB := hbS hb; clear hb))
    go_ret2
    exact ⟨reT, hbT⟩
 ·rw [if_neg c6] at H
  obtain ⟨c6b0, c6b1⟩ := eqN c6
  simp only [Option.some.injEq, Prod.mk.injEq] at H
  obtain ⟨rfl, rfl⟩ := H
  go_enter Try.func90, Try.ntmps90
  go_wp2_with (first | ((with_reducible refine gate_callee (f := 111) rfl ?_); refine goA (some 15) Try.func111 (vernierref05_Rank.calls k a0 a1 t567 t568 _ A4.out) ?_; intro w15 hb; replace HB := hbS hb; clear hb) | ((with_reducible refine gate_callee (f := 111) rfl ?_); refine goA (some 21) Try.func111 (vernierref05_Rank.calls k a0 a2 t569 t570 _ A5.out) ?_; intro w16 hb; replace HB := hbS hb; clear hb))
  go_ret2
  exact ⟨reT, hbT⟩

end Go.Proofs.Ytnlbfomlfhigcaa.Q
namespace Go.Proofs.Ytnlbfomlfhigcaa.Q
open Go.RowKit Go.Proofs.YtnlbfomlfhigcaaW.PrintWords Go.Proofs.YtnlbfomlfhigcaaW.PrintLast Go.Proofs.YtnlbfomlfhigcaaW.PrintMore
attribute [local go_sem] max2_int min2_int max_two min_two max_three min_three max_four min_four
set_option linter.unusedVariables false
set_option linter.unusedSimpArgs false

def vernierref08_Cmp.f (k : Nat) (a0 : Int) (a1 : Int) (a2 : Int) : Option (Int) := (vernierref08_Cmps.f k a0 a1 a2).bind fun bt571 => (some bt571.1)
theorem vernierref08_Cmp.mono : ∀ a0 a1 a2 k, LeO (vernierref08_Cmp.f k a0 a1 a2) (vernierref08_Cmp.f (k + 1) a0 a1 a2) := by
 intro a0 a1 a2 k
 unfold vernierref08_Cmp.f
 repeat' first
   | (with_reducible exact vernierref08_Cmps.mono _ _ _ _)
   | (with_reducible exact LeO.refl _)
   | (with_reducible exact LeO.none _)
   | (with_reducible refine LeO.ite ?_ ?_)
   | (with_reducible refine LeO.bind ?_ (fun _ => ?_))
set_option maxHeartbeats 8000000 in
set_option maxRecDepth 100000 in
theorem vernierref08_Cmp.calls (k : Nat) (a0 : Int) (a1 : Int) (a2 : Int) (r : Int) (w : World) (h : vernierref08_Cmp.f k a0 a1 a2 = some r) :
  Calls Try.prog 50 #[.int .i64 a0, .int .u64 a1, .int .u64 a2] w fun e w' => e = .returned (.int .i64 r) ∧ Below w.heap.size w w' := by
 have HB := Aside0.mk (Below.refl w.heap.size w)
 have H := h
 clear h
 unfold vernierref08_Cmp.f at H
 replace H := Option.bind_eq_some_iff.mp H
 obtain ⟨⟨t571, t572⟩, A40, H⟩ := H
 try dsimp only at H
 have A4 := Aside0.mk A40
 clear A40
 obtain rfl := Option.some.inj H
 go_enter Try.func50, Try.ntmps50
 go_wp2_with (first | ((with_reducible refine gate_callee (f := 90) rfl ?_); refine goA (some 13) Try.func90 (vernierref08_Cmps.calls k a0 a1 a2 t571 t572 _ A4.out) ?_; intro w5 hb; replace HB := hbS hb; clear hb))
 go_ret
 exact ⟨reT, hbT⟩

end Go.Proofs.Ytnlbfomlfhigcaa.Q
