/- Walks and plain laws that the claim stands on: each theorem named calls says that a call of a function returns what its f computes; the others are plain laws of these f. -/
import Derived.Test.YtnlbfomlfhigcaaG0123456a
import Derived.Test.YtnlbfomlfhigcaaG01234a
import Derived.Test.YtnlbfomlfhigcaaG012346a
namespace Go.Proofs.Ytnlbfomlfhigcaa.Q
open Go.RowKit Go.Proofs.YtnlbfomlfhigcaaW.PrintWords Go.Proofs.YtnlbfomlfhigcaaW.PrintLast Go.Proofs.YtnlbfomlfhigcaaW.PrintMore
attribute [local go_sem] max2_int min2_int max_two min_two max_three min_three max_four min_four
set_option linter.unusedVariables false
set_option linter.unusedSimpArgs false

def gen_P8_36.f (k : Nat) (a0 : Int) : Option (Int) := (gen_P8_57.f k).bind fun t372 => ((gen_P16_61.f k).bind fun t373 => ((gen_Convert.f k t372 t373 (IntKind.u64.wrap (a0))).bind fun bt374 => (some (IntKind.u16.wrap (bt374.1)))))
theorem gen_P8_36.mono : ∀ a0 k, LeO (gen_P8_36.f k a0) (gen_P8_36.f (k + 1) a0) := by
 intro a0 k
 unfold gen_P8_36.f
 repeat' first
   | (with_reducible exact gen_Convert.mono _ _ _ _)
   | (with_reducible exact gen_P16_61.mono _)
   | (with_reducible exact gen_P8_57.mono _)
   | (with_reducible exact LeO.refl _)
   | (with_reducible exact LeO.none _)
   | (with_reducible refine LeO.ite ?_ ?_)
   | (with_reducible refine LeO.bind ?_ (fun _ => ?_))
set_option maxHeartbeats 8000000 in
set_option maxRecDepth 100000 in
theorem gen_P8_36.calls (k : Nat) (a0 : Int) (r : Int) (w : World) (h : gen_P8_36.f k a0 = some r) :
  Calls Try.prog 36 #[.int .u8 a0] w fun e w' => e = .returned (.int .u16 r) ∧ Below w.heap.size w w' := by
 have HB := Aside0.mk (Below.refl w.heap.size w)
 have H := h
 clear h
 unfold gen_P8_36.f at H
 replace H := Option.bind_eq_some_iff.mp H
 obtain ⟨t372, A20, H⟩ := H
 try dsimp only at H
 have A2 := Aside0.mk A20
 clear A20
 replace H := Option.bind_eq_some_iff.mp H
 obtain ⟨t373, A30, H⟩ := H
 try dsimp only at H
 have A3 := Aside0.mk A30
 clear A30
 replace H := Option.bind_eq_some_iff.mp H
 obtain ⟨⟨t374, t375⟩, A40, H⟩ := H
 try dsimp only at H
 have A4 := Aside0.mk A40
 clear A40
 obtain rfl := Option.some.inj H
 go_enter Try.func36, Try.ntmps36
 go_wp2_with (first | ((with_reducible refine gate_callee (f := 57) rfl ?_); refine goesL_ (some 6) rfl rfl Try.func57 (by kernel_rfl) rfl #[] rfl (by (try simp only [List.map_toArray, List.map_cons, List.map_nil]); first | done | rfl | (simp only [List.length_drop, List.length_take]; rfl)) ?_; (with_reducible refine (gen_P8_57.calls k  t372 _ A2.out).mono ?_); rintro e w' ⟨rfl, ⟨nd, rfl⟩⟩; refine ⟨_, rfl, ?_⟩) | ((with_reducible refine gate_callee (f := 61) rfl ?_); refine goesL_ (some 7) rfl rfl Try.func61 (by kernel_rfl) rfl #[] rfl (by (try simp only [List.map_toArray, List.map_cons, List.map_nil]); first | done | rfl | (simp only [List.length_drop, List.length_take]; rfl)) ?_; (with_reducible refine (gen_P16_61.calls k  t373 _ A3.out).mono ?_); rintro e w' ⟨rfl, ⟨nd, rfl⟩⟩; refine ⟨_, rfl, ?_⟩) | ((with_reducible refine gate_callee (f := 45) rfl ?_); refine goA (some 10) Try.func45 (gen_Convert.calls k t372 t373 (IntKind.u64.wrap (a0)) t374 t375 _ A4.out) ?_; intro w5 hb; replace HB := hbS hb; clear hb; (try simp only [errW_none, errW_some])))
 go_ret
 exact ⟨reT, hbT⟩

end Go.Proofs.Ytnlbfomlfhigcaa.Q
namespace Go.Proofs.Ytnlbfomlfhigcaa.Q
open Go.RowKit Go.Proofs.YtnlbfomlfhigcaaW.PrintWords Go.Proofs.YtnlbfomlfhigcaaW.PrintLast Go.Proofs.YtnlbfomlfhigcaaW.PrintMore
attribute [local go_sem] max2_int min2_int max_two min_two max_three min_three max_four min_four
set_option linter.unusedVariables false
set_option linter.unusedSimpArgs false

def gen_Width_uint8.l0 : Nat → Int → Int → Option (Int)
 | 0, _, _ => none
 | k + 1, x1, x2 => if x2 = 0 then (some x1) else (gen_Width_uint8.l0 k (wrap64 (x1 + 1)) (x2 / 2))
def gen_Width_uint8.f (k : Nat)  : Option (Int) := gen_Width_uint8.l0 k 0 (Go.bits .xor .u8 255 0)
theorem gen_Width_uint8.mono_l : ∀ k, (∀ y0 y1, LeO (gen_Width_uint8.l0 k y0 y1) (gen_Width_uint8.l0 (k + 1) y0 y1))
 | 0 => fun _ _ r h => by simp [gen_Width_uint8.l0] at h
 | k + 1 => by
  have ih0 := gen_Width_uint8.mono_l k
  ·intro y0 y1
   unfold gen_Width_uint8.l0
   repeat' first
   | (with_reducible exact ih0 _ _)
   | (with_reducible exact LeO.refl _)
   | (with_reducible exact LeO.none _)
   | (with_reducible refine LeO.ite ?_ ?_)
   | (with_reducible refine LeO.bind ?_ (fun _ => ?_))
   | exact ih0 _ _
   | exact LeO.none _
   | refine LeO.ite ?_ ?_
   | refine LeO.bind ?_ (fun _ => ?_)
theorem gen_Width_uint8.mono : ∀ k, LeO (gen_Width_uint8.f k ) (gen_Width_uint8.f (k + 1) ) := by
 intro  k
 have ih0 := gen_Width_uint8.mono_l k
 unfold gen_Width_uint8.f
 repeat' first
   | (with_reducible exact ih0 _ _)
   | (with_reducible exact LeO.refl _)
   | (with_reducible exact LeO.none _)
   | (with_reducible refine LeO.ite ?_ ?_)
   | (with_reducible refine LeO.bind ?_ (fun _ => ?_))
   | exact ih0 _ _
   | exact LeO.none _
   | refine LeO.ite ?_ ?_
   | refine LeO.bind ?_ (fun _ => ?_)
set_option maxHeartbeats 8000000 in
set_option maxRecDepth 100000 in
theorem gen_Width_uint8.calls (k : Nat)  (r : Int) (w : World) (h : gen_Width_uint8.f k  = some r) :
  Calls Try.prog 80 #[] w fun e w' => e = .returned (.int .i64 r) ∧ Drawn0 w w' := by
 have H := h
 clear h
 unfold gen_Width_uint8.f at H
 have H' := Aside0.mk H
 clear H
 go_enter Try.func80, Try.ntmps80
 go_wp2
 go_loopg [1, 2] k (fun kq v1 v2 w' => ∃ (x1_1 : Int) (x2_1 : Int), v1 = .int .i64 x1_1 ∧ v2 = .int .u8 x2_1 ∧ Aside0 (gen_Width_uint8.l0 kq x1_1 x2_1 = some r) ∧ Aside0 (kq ≤ k) ∧ Drawn0 w w')
 case atStart => exact ⟨(0), (Go.bits .xor .u8 255 0), okT, okT, H', ⟨Nat.le_refl _⟩, by repeat (first | exact Drawn0.refl _ | apply Drawn0.step)⟩
 case round =>
  clear H'
  obtain ⟨x1_1, x2_1, rfl, rfl, HA, HK1, ⟨m1, rfl⟩⟩ := hrel
  cases gk with
  | zero => exact absurd HA.out (by simp [gen_Width_uint8.l0])
  | succ k1 =>
   have H := HA.out
   clear HA
   simp only [gen_Width_uint8.l0] at H
   by_cases c1 : x2_1 = 0
   ·rw [if_pos c1] at H
    obtain ⟨c1b0, c1b1⟩ := eqY c1
    clear c1
    obtain rfl := Option.some.inj H
    go_wp2
    go_ret
    exact ⟨okT, by repeat (first | exact Drawn0.refl _ | apply Drawn0.step)⟩
   ·rw [if_neg c1] at H
    obtain ⟨c1b0, c1b1⟩ := eqN c1
    have H' := Aside0.mk H
    clear H
    go_wp2
    go_roundg k1
    case measure => have := HK1.out; omega
    case rel => exact ⟨(wrap64 (x1_1 + 1)), (x2_1 / 2), okT, okT, H', ⟨by have := HK1.out; omega⟩, by repeat (first | exact Drawn0.refl _ | apply Drawn0.step)⟩

end Go.Proofs.Ytnlbfomlfhigcaa.Q
namespace Go.Proofs.Ytnlbfomlfhigcaa.Q
open Go.RowKit Go.Proofs.YtnlbfomlfhigcaaW.PrintWords Go.Proofs.YtnlbfomlfhigcaaW.PrintLast Go.Proofs.YtnlbfomlfhigcaaW.PrintMore
attribute [local go_sem] max2_int min2_int max_two min_two max_three min_three max_four min_four
set_option linter.unusedVariables false
set_option linter.unusedSimpArgs false

def gen_Width_uint64.l0 : Nat → Int → Int → Option (Int)
 | 0, _, _ => none
 | k + 1, x1, x2 => if x2 = 0 then (some x1) else (gen_Width_uint64.l0 k (wrap64 (x1 + 1)) (x2 / 2))
def gen_Width_uint64.f (k : Nat)  : Option (Int) := gen_Width_uint64.l0 k 0 (Go.bits .xor .u64 18446744073709551615 0)
theorem gen_Width_uint64.mono_l : ∀ k, (∀ y0 y1, LeO (gen_Width_uint64.l0 k y0 y1) (gen_Width_uint64.l0 (k + 1) y0 y1))
 | 0 => fun _ _ r h => by simp [gen_Width_uint64.l0] at h
 | k + 1 => by
  have ih0 := gen_Width_uint64.mono_l k
  ·intro y0 y1
   unfold gen_Width_uint64.l0
   repeat' first
   | (with_reducible exact ih0 _ _)
   | (with_reducible exact LeO.refl _)
   | (with_reducible exact LeO.none _)
   | (with_reducible refine LeO.ite ?_ ?_)
   | (with_reducible refine LeO.bind ?_ (fun _ => ?_))
   | exact ih0 _ _
   | exact LeO.none _
   | refine LeO.ite ?_ ?_
   | refine LeO.bind ?_ (fun _ => ?_)
theorem gen_Width_uint64.mono : ∀ k, LeO (gen_Width_uint64.f k ) (gen_Width_uint64.f (k + 1) ) := by
 intro  k
 have ih0 := gen_Width_uint64.mono_l k
 unfold gen_Width_uint64.f
 repeat' first
   | (with_reducible exact ih0 _ _)
   | (with_reducible exact LeO.refl _)
   | (with_reducible exact LeO.none _)
   | (with_reducible refine LeO.ite ?_ ?_)
   | (with_reducible refine LeO.bind ?_ (fun _ => ?_))
   | exact ih0 _ _
   | exact LeO.none _
   | refine LeO.ite ?_ ?_
   | refine LeO.bind ?_ (fun _ => ?_)
set_option maxHeartbeats 8000000 in
set_option maxRecDepth 100000 in
theorem gen_Width_uint64.calls (k : Nat)  (r : Int) (w : World) (h : gen_Width_uint64.f k  = some r) :
  Calls Try.prog 81 #[] w fun e w' => e = .returned (.int .i64 r) ∧ Drawn0 w w' := by
 have H := h
 clear h
 unfold gen_Width_uint64.f at H
 have H' := Aside0.mk H
 clear H
 go_enter Try.func81, Try.ntmps81
 go_wp2
 go_loopg [1, 2] k (fun kq v1 v2 w' => ∃ (x1_1 : Int) (x2_1 : Int), v1 = .int .i64 x1_1 ∧ v2 = .int .u64 x2_1 ∧ Aside0 (gen_Width_uint64.l0 kq x1_1 x2_1 = some r) ∧ Aside0 (kq ≤ k) ∧ Drawn0 w w')
 case atStart => exact ⟨(0), (Go.bits .xor .u64 18446744073709551615 0), okT, okT, H', ⟨Nat.le_refl _⟩, by repeat (first | exact Drawn0.refl _ | apply Drawn0.step)⟩
 case round =>
  clear H'
  obtain ⟨x1_1, x2_1, rfl, rfl, HA, HK1, ⟨m1, rfl⟩⟩ := hrel
  cases gk with
  | zero => exact absurd HA.out (by simp [gen_Width_uint64.l0])
  | succ k1 =>
   have H := HA.out
   clear HA
   simp only [gen_Width_uint64.l0] at H
   by_cases c1 : x2_1 = 0
   ·rw [if_pos c1] at H
    obtain ⟨c1b0, c1b1⟩ := eqY c1
    clear c1
    obtain rfl := Option.some.inj H
    go_wp2
    go_ret
    exact ⟨okT, by repeat (first | exact Drawn0.refl _ | apply Drawn0.step)⟩
   ·rw [if_neg c1] at H
    obtain ⟨c1b0, c1b1⟩ := eqN c1
    have H' := Aside0.mk H
    clear H
    go_wp2
    go_roundg k1
    case measure => have := HK1.out; omega
    case rel => exact ⟨(wrap64 (x1_1 + 1)), (x2_1 / 2), okT, okT, H', ⟨by have := HK1.out; omega⟩, by repeat (first | exact Drawn0.refl _ | apply Drawn0.step)⟩

end Go.Proofs.Ytnlbfomlfhigcaa.Q
namespace Go.Proofs.Ytnlbfomlfhigcaa.Q
open Go.RowKit Go.Proofs.YtnlbfomlfhigcaaW.PrintWords Go.Proofs.YtnlbfomlfhigcaaW.PrintLast Go.Proofs.YtnlbfomlfhigcaaW.PrintMore
attribute [local go_sem] max2_int min2_int max_two min_two max_three min_three max_four min_four
set_option linter.unusedVariables false
set_option linter.unusedSimpArgs false

def vernierlaw14_Own.l0 : Nat → Int → Int → Option (Int)
 | 0, _, _ => none
 | k + 1, x1, x2 => if x2 = 0 then (some x1) else (vernierlaw14_Own.l0 k (wrap64 (x1 + 1)) (x2 / 2))
def vernierlaw14_Own.f (k : Nat)  : Option (Int) := vernierlaw14_Own.l0 k 0 (Go.bits .xor .u16 65535 0)
theorem vernierlaw14_Own.mono_l : ∀ k, (∀ y0 y1, LeO (vernierlaw14_Own.l0 k y0 y1) (vernierlaw14_Own.l0 (k + 1) y0 y1))
 | 0 => fun _ _ r h => by simp [vernierlaw14_Own.l0] at h
 | k + 1 => by
  have ih0 := vernierlaw14_Own.mono_l k
  ·intro y0 y1
   unfold vernierlaw14_Own.l0
   repeat' first
   | (with_reducible exact ih0 _ _)
   | (with_reducible exact LeO.refl _)
   | (with_reducible exact LeO.none _)
   | (with_reducible refine LeO.ite ?_ ?_)
   | (with_reducible refine LeO.bind ?_ (fun _ => ?_))
   | exact ih0 _ _
   | exact LeO.none _
   | refine LeO.ite ?_ ?_
   | refine LeO.bind ?_ (fun _ => ?_)
theorem vernierlaw14_Own.mono : ∀ k, LeO (vernierlaw14_Own.f k ) (vernierlaw14_Own.f (k + 1) ) := by
 intro  k
 have ih0 := vernierlaw14_Own.mono_l k
 unfold vernierlaw14_Own.f
 repeat' first
   | (with_reducible exact ih0 _ _)
   | (with_reducible exact LeO.refl _)
   | (with_reducible exact LeO.none _)
   | (with_reducible refine LeO.ite ?_ ?_)
   | (with_reducible refine LeO.bind ?_ (fun _ => ?_))
   | exact ih0 _ _
   | exact LeO.none _
   | refine LeO.ite ?_ ?_
   | refine LeO.bind ?_ (fun _ => ?_)
set_option maxHeartbeats 8000000 in
set_option maxRecDepth 100000 in
theorem vernierlaw14_Own.calls (k : Nat)  (r : Int) (w : World) (h : vernierlaw14_Own.f k  = some r) :
  Calls Try.prog 82 #[] w fun e w' => e = .returned (.int .i64 r) ∧ Drawn0 w w' := by
 have H := h
 clear h
 unfold vernierlaw14_Own.f at H
 have H' := Aside0.mk H
 clear H
 go_enter Try.func82, Try.ntmps82
 go_wp2
 go_loopg [1, 2] k (fun kq v1 v2 w' => ∃ (x1_1 : Int) (x2_1 : Int), v1 = .int .i64 x1_1 ∧ v2 = .int .u16 x2_1 ∧ Aside0 (vernierlaw14_Own.l0 kq x1_1 x2_1 = some r) ∧ Aside0 (kq ≤ k) ∧ Drawn0 w w')
 case atStart => exact ⟨(0), (Go.bits .xor .u16 65535 0), okT, okT, H', ⟨Nat.le_refl _⟩, by repeat (first | exact Drawn0.refl _ | apply Drawn0.step)⟩
 case round =>
  clear H'
  obtain ⟨x1_1, x2_1, rfl, rfl, HA, HK1, ⟨m1, rfl⟩⟩ := hrel
  cases gk with
  | zero => exact absurd HA.out (by simp [vernierlaw14_Own.l0])
  | succ k1 =>
   have H := HA.out
   clear HA
   simp only [vernierlaw14_Own.l0] at H
   by_cases c1 : x2_1 = 0
   ·rw [if_pos c1] at H
    obtain ⟨c1b0, c1b1⟩ := eqY c1
    clear c1
    obtain rfl := Option.some.inj H
    go_wp2
    go_ret
    exact ⟨okT, by repeat (first | exact Drawn0.refl _ | apply Drawn0.step)⟩
   ·rw [if_neg c1] at H
    obtain ⟨c1b0, c1b1⟩ := eqN c1
    have H' := Aside0.mk H
    clear H
    go_wp2
    go_roundg k1
    case measure => have := HK1.out; omega
    case rel => exact ⟨(wrap64 (x1_1 + 1)), (x2_1 / 2), okT, okT, H', ⟨by have := HK1.out; omega⟩, by repeat (first | exact Drawn0.refl _ | apply Drawn0.step)⟩

end Go.Proofs.Ytnlbfomlfhigcaa.Q
namespace Go.Proofs.Ytnlbfomlfhigcaa.Q
open Go.RowKit Go.Proofs.YtnlbfomlfhigcaaW.PrintWords Go.Proofs.YtnlbfomlfhigcaaW.PrintLast Go.Proofs.YtnlbfomlfhigcaaW.PrintMore
attribute [local go_sem] max2_int min2_int max_two min_two max_three min_three max_four min_four
set_option linter.unusedVariables false
set_option linter.unusedSimpArgs false

def vernierlaw14_up.f (k : Nat)  : Option (Bool) := (gen_P8_57.f k).bind fun t376 => (if t376 = 8 then ((gen_P32_63.f k).bind fun t377 => (if t377 = 32 then ((gen_P64_22.f k).bind fun t378 => (if t378 = 64 then ((gen_Width_uint8.f k).bind fun t379 => (if t379 = 8 then ((gen_Width_uint64.f k).bind fun t380 => (if t380 = 64 then ((vernierlaw14_Own.f k).bind fun t381 => (if t381 = 16 then ((gen_P16_61.f k).bind fun t382 => (if t382 = 16 then ((gen_P8_14.f k 64 64).bind fun t383 => (if t383 = 72 then ((gen_P8_36.f k 68).bind fun t384 => (some (t384 == 17408))) else (some false))) else (some false))) else (some false))) else (some false))) else (some false))) else (some false))) else (some false))) else (some false))
theorem vernierlaw14_up.mono : ∀ k, LeO (vernierlaw14_up.f k ) (vernierlaw14_up.f (k + 1) ) := by
 intro  k
 unfold vernierlaw14_up.f
 repeat' first
   | (with_reducible exact gen_P16_61.mono _)
   | (with_reducible exact gen_P32_63.mono _)
   | (with_reducible exact gen_P64_22.mono _)
   | (with_reducible exact gen_P8_14.mono _ _ _)
   | (with_reducible exact gen_P8_36.mono _ _)
   | (with_reducible exact gen_P8_57.mono _)
   | (with_reducible exact gen_Width_uint64.mono _)
   | (with_reducible exact gen_Width_uint8.mono _)
   | (with_reducible exact vernierlaw14_Own.mono _)
   | (with_reducible exact LeO.refl _)
   | (with_reducible exact LeO.none _)
   | (with_reducible refine LeO.ite ?_ ?_)
   | (with_reducible refine LeO.bind ?_ (fun _ => ?_))
set_option maxHeartbeats 8000000 in
set_option maxRecDepth 100000 in
theorem vernierlaw14_up.calls (k : Nat)  (r : Bool) (w : World) (h : vernierlaw14_up.f k  = some r) :
  Calls Try.prog 35 #[] w fun e w' => e = .returned (.bool r) ∧ Below w.heap.size w w' := by
 have HB := Aside0.mk (Below.refl w.heap.size w)
 have H := h
 clear h
 unfold vernierlaw14_up.f at H
 replace H := Option.bind_eq_some_iff.mp H
 obtain ⟨t376, A10, H⟩ := H
 try dsimp only at H
 have A1 := Aside0.mk A10
 clear A10
 by_cases c2 : t376 = 8
 ·rw [if_pos c2] at H
  obtain ⟨c2b0, c2b1⟩ := eqY c2
  clear c2
  replace H := Option.bind_eq_some_iff.mp H
  obtain ⟨t377, A30, H⟩ := H
  try dsimp only at H
  have A3 := Aside0.mk A30
  clear A30
  by_cases c4 : t377 = 32
  ·rw [if_pos c4] at H
   obtain ⟨c4b0, c4b1⟩ := eqY c4
   clear c4
   replace H := Option.bind_eq_some_iff.mp H
   obtain ⟨t378, A50, H⟩ := H
   try dsimp only at H
   have A5 := Aside0.mk A50
   clear A50
   by_cases c6 : t378 = 64
   ·rw [if_pos c6] at H
    obtain ⟨c6b0, c6b1⟩ := eqY c6
    clear c6
    replace H := Option.bind_eq_some_iff.mp H
    obtain ⟨t379, A70, H⟩ := H
    try dsimp only at H
    have A7 := Aside0.mk A70
    clear A70
    by_cases c8 : t379 = 8
    ·rw [if_pos c8] at H
     obtain ⟨c8b0, c8b1⟩ := eqY c8
     clear c8
     replace H := Option.bind_eq_some_iff.mp H
     obtain ⟨t380, A90, H⟩ := H
     try dsimp only at H
     have A9 := Aside0.mk A90
     clear A90
     by_cases c10 : t380 = 64
     ·rw [if_pos c10] at H
      obtain ⟨c10b0, c10b1⟩ := eqY c10
      clear c10
      replace H := Option.bind_eq_some_iff.mp H
      obtain ⟨t381, A110, H⟩ := H
      try dsimp only at H
      have A11 := Aside0.mk A110
      clear A110
      by_cases c12 : t381 = 16
      ·rw [if_pos c12] at H
       obtain ⟨c12b0, c12b1⟩ := eqY c12
       clear c12
       replace H := Option.bind_eq_some_iff.mp H
       obtain ⟨t382, A130, H⟩ := H
       try dsimp only at H
       have A13 := Aside0.mk A130
       clear A130
       by_cases c14 : t382 = 16
       ·rw [if_pos c14] at H
        obtain ⟨c14b0, c14b1⟩ := eqY c14
        clear c14
        replace H := Option.bind_eq_some_iff.mp H
        obtain ⟨t383, A150, H⟩ := H
        try dsimp only at H
        have A15 := Aside0.mk A150
        clear A150
        by_cases c16 : t383 = 72
        ·rw [if_pos c16] at H
         obtain ⟨c16b0, c16b1⟩ := eqY c16
         clear c16
         replace H := Option.bind_eq_some_iff.mp H
         obtain ⟨t384, A170, H⟩ := H
         try dsimp only at H
         have A17 := Aside0.mk A170
         clear A170
         obtain rfl := Option.some.inj H
         go_enter Try.func35, Try.ntmps35
         go_wp2_with (first | ((with_reducible refine gate_callee (f := 57) rfl ?_); refine goesL_ (some 2) rfl rfl Try.func57 (by kernel_rfl) rfl #[] rfl (by (try simp only [List.map_toArray, List.map_cons, List.map_nil]); first | done | rfl | (simp only [List.length_drop, List.length_take]; rfl)) ?_; (with_reducible refine (gen_P8_57.calls k  t376 _ A1.out).mono ?_); rintro e w' ⟨rfl, ⟨nd, rfl⟩⟩; refine ⟨_, rfl, ?_⟩) | (go_at_call 63; (with_reducible refine (gen_P32_63.calls k  t377 _ A3.out).mono ?_); rintro e w' ⟨rfl, ⟨nd, rfl⟩⟩) | (go_at_call 22; (with_reducible refine (gen_P64_22.calls k  t378 _ A5.out).mono ?_); rintro e w' ⟨rfl, ⟨nd, rfl⟩⟩) | (go_at_call 80; (with_reducible refine (gen_Width_uint8.calls k  t379 _ A7.out).mono ?_); rintro e w' ⟨rfl, ⟨nd, rfl⟩⟩) | (go_at_call 81; (with_reducible refine (gen_Width_uint64.calls k  t380 _ A9.out).mono ?_); rintro e w' ⟨rfl, ⟨nd, rfl⟩⟩) | (go_at_call 82; (with_reducible refine (vernierlaw14_Own.calls k  t381 _ A11.out).mono ?_); rintro e w' ⟨rfl, ⟨nd, rfl⟩⟩) | (go_at_call 61; (with_reducible refine (gen_P16_61.calls k  t382 _ A13.out).mono ?_); rintro e w' ⟨rfl, ⟨nd, rfl⟩⟩) | (go_at_call 14; (with_reducible refine (gen_P8_14.calls k 64 64 t383 _ A15.out).mono ?_); rintro e w18 ⟨rfl, hb⟩; replace HB := hbS hb; (try clear hb); (try clear hb2); (try clear hk); (try clear hi)) | (go_at_call 36; (with_reducible refine (gen_P8_36.calls k 68 t384 _ A17.out).mono ?_); rintro e w19 ⟨rfl, hb⟩; replace HB := hbS hb; (try clear hb); (try clear hb2); (try clear hk); (try clear hi)))
         go_ret
         exact ⟨reT, hbT⟩
        ·rw [if_neg c16] at H
         obtain ⟨c16b0, c16b1⟩ := eqN c16
         obtain rfl := Option.some.inj H
         go_enter Try.func35, Try.ntmps35
         go_wp2_with (first | ((with_reducible refine gate_callee (f := 57) rfl ?_); refine goesL_ (some 2) rfl rfl Try.func57 (by kernel_rfl) rfl #[] rfl (by (try simp only [List.map_toArray, List.map_cons, List.map_nil]); first | done | rfl | (simp only [List.length_drop, List.length_take]; rfl)) ?_; (with_reducible refine (gen_P8_57.calls k  t376 _ A1.out).mono ?_); rintro e w' ⟨rfl, ⟨nd, rfl⟩⟩; refine ⟨_, rfl, ?_⟩) | (go_at_call 63; (with_reducible refine (gen_P32_63.calls k  t377 _ A3.out).mono ?_); rintro e w' ⟨rfl, ⟨nd, rfl⟩⟩) | (go_at_call 22; (with_reducible refine (gen_P64_22.calls k  t378 _ A5.out).mono ?_); rintro e w' ⟨rfl, ⟨nd, rfl⟩⟩) | (go_at_call 80; (with_reducible refine (gen_Width_uint8.calls k  t379 _ A7.out).mono ?_); rintro e w' ⟨rfl, ⟨nd, rfl⟩⟩) | (go_at_call 81; (with_reducible refine (gen_Width_uint64.calls k  t380 _ A9.out).mono ?_); rintro e w' ⟨rfl, ⟨nd, rfl⟩⟩) | (go_at_call 82; (with_reducible refine (vernierlaw14_Own.calls k  t381 _ A11.out).mono ?_); rintro e w' ⟨rfl, ⟨nd, rfl⟩⟩) | (go_at_call 61; (with_reducible refine (gen_P16_61.calls k  t382 _ A13.out).mono ?_); rintro e w' ⟨rfl, ⟨nd, rfl⟩⟩) | (go_at_call 14; (with_reducible refine (gen_P8_14.calls k 64 64 t383 _ A15.out).mono ?_); rintro e w20 ⟨rfl, hb⟩; replace HB := hbS hb; (try clear hb); (try clear hb2); (try clear hk); (try clear hi)))
         go_ret
         exact ⟨reT, hbT⟩
       ·rw [if_neg c14] at H
        obtain ⟨c14b0, c14b1⟩ := eqN c14
        obtain rfl := Option.some.inj H
        go_enter Try.func35, Try.ntmps35
        go_wp2_with (first | ((with_reducible refine gate_callee (f := 57) rfl ?_); refine goesL_ (some 2) rfl rfl Try.func57 (by kernel_rfl) rfl #[] rfl (by (try simp only [List.map_toArray, List.map_cons, List.map_nil]); first | done | rfl | (simp only [List.length_drop, List.length_take]; rfl)) ?_; (with_reducible refine (gen_P8_57.calls k  t376 _ A1.out).mono ?_); rintro e w' ⟨rfl, ⟨nd, rfl⟩⟩; refine ⟨_, rfl, ?_⟩) | (go_at_call 63; (with_reducible refine (gen_P32_63.calls k  t377 _ A3.out).mono ?_); rintro e w' ⟨rfl, ⟨nd, rfl⟩⟩) | (go_at_call 22; (with_reducible refine (gen_P64_22.calls k  t378 _ A5.out).mono ?_); rintro e w' ⟨rfl, ⟨nd, rfl⟩⟩) | (go_at_call 80; (with_reducible refine (gen_Width_uint8.calls k  t379 _ A7.out).mono ?_); rintro e w' ⟨rfl, ⟨nd, rfl⟩⟩) | (go_at_call 81; (with_reducible refine (gen_Width_uint64.calls k  t380 _ A9.out).mono ?_); rintro e w' ⟨rfl, ⟨nd, rfl⟩⟩) | (go_at_call 82; (with_reducible refine (vernierlaw14_Own.calls k  t381 _ A11.out).mono ?_); rintro e w' ⟨rfl, ⟨nd, rfl⟩⟩) | (go_at_call 61; (with_reducible refine (gen_P16_61.calls k  t382 _ A13.out).mono ?_); rintro e w' ⟨rfl, ⟨nd, rfl⟩⟩))
        go_ret
        exact ⟨reT, hbT⟩
      ·rw [if_neg c12] at H
       obtain ⟨c12b0, c12b1⟩ := eqN c12
       obtain rfl := Option.some.inj H
       go_enter Try.func35, Try.ntmps35
       go_wp2_with (first | ((with_reducible refine gate_callee (f := 57) rfl ?_); refine goesL_ (some 2) rfl rfl Try.func57 (by kernel_rfl) rfl #[] rfl (by (try simp only [List.map_toArray, List.map_cons, List.map_nil]); first | done | rfl | (simp only [List.length_drop, List.length_take]; rfl)) ?_; (with_reducible refine (gen_P8_57.calls k  t376 _ A1.out).mono ?_); rintro e w' ⟨rfl, ⟨nd, rfl⟩⟩; refine ⟨_, rfl, ?_⟩) | (go_at_call 63; (with_reducible refine (gen_P32_63.calls k  t377 _ A3.out).mono ?_); rintro e w' ⟨rfl, ⟨nd, rfl⟩⟩) | (go_at_call 22; (with_reducible refine (gen_P64_22.calls k  t378 _ A5.out).mono ?_); rintro e w' ⟨rfl, ⟨nd, rfl⟩⟩) | (go_at_call 80; (with_reducible refine (gen_Width_uint8.calls k  t379 _ A7.out).mono ?_); rintro e w' ⟨rfl, ⟨nd, rfl⟩⟩) | (go_at_call 81; (with_reducible refine (gen_Width_uint64.calls k  t380 _ A9.out).mono ?_); rintro e w' ⟨rfl, ⟨nd, rfl⟩⟩) | (go_at_call 82; (with_reducible refine (vernierlaw14_Own.calls k  t381 _ A11.out).mono ?_); rintro e w' ⟨rfl, ⟨nd, rfl⟩⟩))
       go_ret
       exact ⟨reT, hbT⟩
     ·rw [if_neg c10] at H
      obtain ⟨c10b0, c10b1⟩ := eqN c10
      obtain rfl := Option.some.inj H
      go_enter Try.func35, Try.ntmps35
      go_wp2_with (first | ((with_reducible refine gate_callee (f := 57) rfl ?_); refine goesL_ (some 2) rfl rfl Try.func57 (by kernel_rfl) rfl #[] rfl (by (try simp only [List.map_toArray, List.map_cons, List.map_nil]); first | done | rfl | (simp only [List.length_drop, List.length_take]; rfl)) ?_; (with_reducible refine (gen_P8_57.calls k  t376 _ A1.out).mono ?_); rintro e w' ⟨rfl, ⟨nd, rfl⟩⟩; refine ⟨_, rfl, ?_⟩) | (go_at_call 63; (with_reducible refine (gen_P32_63.calls k  t377 _ A3.out).mono ?_); rintro e w' ⟨rfl, ⟨nd, rfl⟩⟩) | (go_at_call 22; (with_reducible refine (gen_P64_22.calls k  t378 _ A5.out).mono ?_); rintro e w' ⟨rfl, ⟨nd, rfl⟩⟩) | (go_at_call 80; (with_reducible refine (gen_Width_uint8.calls k  t379 _ A7.out).mono ?_); rintro e w' ⟨rfl, ⟨nd, rfl⟩⟩) | (go_at_call 81; (with_reducible refine (gen_Width_uint64.calls k  t380 _ A9.out).mono ?_); rintro e w' ⟨rfl, ⟨nd, rfl⟩⟩))
      go_ret
      exact ⟨reT, hbT⟩
    ·rw [if_neg c8] at H
     obtain ⟨c8b0, c8b1⟩ := eqN c8
     obtain rfl := Option.some.inj H
     go_enter Try.func35, Try.ntmps35
     go_wp2_with (first | ((with_reducible refine gate_callee (f := 57) rfl ?_); refine goesL_ (some 2) rfl rfl Try.func57 (by kernel_rfl) rfl #[] rfl (by (try simp only [List.map_toArray, List.map_cons, List.map_nil]); first | done | rfl | (simp only [List.length_drop, List.length_take]; rfl)) ?_; (with_reducible refine (gen_P8_57.calls k  t376 _ A1.out).mono ?_); rintro e w' ⟨rfl, ⟨nd, rfl⟩⟩; refine ⟨_, rfl, ?_⟩) | (go_at_call 63; (with_reducible refine (gen_P32_63.calls k  t377 _ A3.out).mono ?_); rintro e w' ⟨rfl, ⟨nd, rfl⟩⟩) | (go_at_call 22; (with_reducible refine (gen_P64_22.calls k  t378 _ A5.out).mono ?_); rintro e w' ⟨rfl, ⟨nd, rfl⟩⟩) | (go_at_call 80; (with_reducible refine (gen_Width_uint8.calls k  t379 _ A7.out).mono ?_); rintro e w' ⟨rfl, ⟨nd, rfl⟩⟩))
     go_ret
     exact ⟨reT, hbT⟩
   ·rw [if_neg c6] at H
    obtain ⟨c6b0, c6b1⟩ := eqN c6
    obtain rfl := Option.some.inj H
    go_enter Try.func35, Try.ntmps35
    go_wp2_with (first | ((with_reducible refine gate_callee (f := 57) rfl ?_); refine goesL_ (some 2) rfl rfl Try.func57 (by kernel_rfl) rfl #[] rfl (by (try simp only [List.map_toArray, List.map_cons, List.map_nil]); first | done | rfl | (simp only [List.length_drop, List.length_take]; rfl)) ?_; (with_reducible refine (gen_P8_57.calls k  t376 _ A1.out).mono ?_); rintro e w' ⟨rfl, ⟨nd, rfl⟩⟩; refine ⟨_, rfl, ?_⟩) | (go_at_call 63; (with_reducible refine (gen_P32_63.calls k  t377 _ A3.out).mono ?_); rintro e w' ⟨rfl, ⟨nd, rfl⟩⟩) | (go_at_call 22; (with_reducible refine (gen_P64_22.calls k  t378 _ A5.out).mono ?_); rintro e w' ⟨rfl, ⟨nd, rfl⟩⟩))
    go_ret
    exact ⟨reT, hbT⟩
  ·rw [if_neg c4] at H
   obtain ⟨c4b0, c4b1⟩ := eqN c4
   obtain rfl := Option.some.inj H
   go_enter Try.func35, Try.ntmps35
   go_wp2_with (first | ((with_reducible refine gate_callee (f := 57) rfl ?_); refine goesL_ (some 2) rfl rfl Try.func57 (by kernel_rfl) rfl #[] rfl (by (try simp only [List.map_toArray, List.map_cons, List.map_nil]); first | done | rfl | (simp only [List.length_drop, List.length_take]; rfl)) ?_; (with_reducible refine (gen_P8_57.calls k  t376 _ A1.out).mono ?_); rintro e w' ⟨rfl, ⟨nd, rfl⟩⟩; refine ⟨_, rfl, ?_⟩) | (go_at_call 63; (with_reducible refine (gen_P32_63.calls k  t377 _ A3.out).mono ?_); rintro e w' ⟨rfl, ⟨nd, rfl⟩⟩))
   go_ret
   exact ⟨reT, hbT⟩
 ·rw [if_neg c2] at H
  obtain ⟨c2b0, c2b1⟩ := eqN c2
  obtain rfl := Option.some.inj H
  go_enter Try.func35, Try.ntmps35
  go_wp2_with (first | ((with_reducible refine gate_callee (f := 57) rfl ?_); refine goesL_ (some 2) rfl rfl Try.func57 (by kernel_rfl) rfl #[] rfl (by (try simp only [List.map_toArray, List.map_cons, List.map_nil]); first | done | rfl | (simp only [List.length_drop, List.length_take]; rfl)) ?_; (with_reducible refine (gen_P8_57.calls k  t376 _ A1.out).mono ?_); rintro e w' ⟨rfl, ⟨nd, rfl⟩⟩; refine ⟨_, rfl, ?_⟩))
  go_ret
  exact ⟨reT, hbT⟩

end Go.Proofs.Ytnlbfomlfhigcaa.Q
