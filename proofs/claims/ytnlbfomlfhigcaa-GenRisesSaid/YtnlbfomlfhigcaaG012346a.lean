/- Walks and plain laws that the claim stands on: each theorem named calls says that a call of a function returns what its f computes; the others are plain laws of these f. -/
import Derived.Test.YtnlbfomlfhigcaaG0123456a
namespace Go.Proofs.Ytnlbfomlfhigcaa.Q
open Go.RowKit Go.Proofs.YtnlbfomlfhigcaaW.PrintWords Go.Proofs.YtnlbfomlfhigcaaW.PrintLast Go.Proofs.YtnlbfomlfhigcaaW.PrintMore
attribute [local go_sem] max2_int min2_int max_two min_two max_three min_three max_four min_four
set_option linter.unusedVariables false
set_option linter.unusedSimpArgs false

def gen_P64_22.l0 : Nat → Int → Int → Option (Int)
 | 0, _, _ => none
 | k + 1, x1, x2 => if x2 = 0 then (some x1) else (gen_P64_22.l0 k (wrap64 (x1 + 1)) (x2 / 2))
def gen_P64_22.f (k : Nat)  : Option (Int) := gen_P64_22.l0 k 0 (Go.bits .xor .u64 18446744073709551615 0)
theorem gen_P64_22.mono_l : ∀ k, (∀ y0 y1, LeO (gen_P64_22.l0 k y0 y1) (gen_P64_22.l0 (k + 1) y0 y1))
 | 0 => fun _ _ r h => by simp [gen_P64_22.l0] at h
 | k + 1 => by
  have ih0 := gen_P64_22.mono_l k
  ·intro y0 y1
   unfold gen_P64_22.l0
   repeat' first
   | (with_reducible exact ih0 _ _)
   | (with_reducible exact LeO.refl _)
   | (with_reducible exact LeO.none _)
   | (with_reducible refine LeO.ite ?_ ?_)
   | (with_reducible refine LeO.bind ?_ (fun _ => ?_))
   | exact ih0 _ _
   | exact LeO.none _
   | refine LeO.ite ?_ ?_
   | refine LeO.bind ?_ (fun _ => ?_)
theorem gen_P64_22.mono : ∀ k, LeO (gen_P64_22.f k ) (gen_P64_22.f (k + 1) ) := by
 intro  k
 have ih0 := gen_P64_22.mono_l k
 unfold gen_P64_22.f
 repeat' first
   | (with_reducible exact ih0 _ _)
   | (with_reducible exact LeO.refl _)
   | (with_reducible exact LeO.none _)
   | (with_reducible refine LeO.ite ?_ ?_)
   | (with_reducible refine LeO.bind ?_ (fun _ => ?_))
   | exact ih0 _ _
   | exact LeO.none _
   | refine LeO.ite ?_ ?_
   | refine LeO.bind ?_ (fun _ => ?_)
set_option maxHeartbeats 8000000 in
set_option maxRecDepth 100000 in
theorem gen_P64_22.calls (k : Nat)  (r : Int) (w : World) (h : gen_P64_22.f k  = some r) :
  Calls Try.prog 22 #[] w fun e w' => e = .returned (.int .i64 r) ∧ Drawn0 w w' := by
 have H := h
 clear h
 unfold gen_P64_22.f at H
 have H' := Aside0.mk H
 clear H
 go_enter Try.func22, Try.ntmps22
 go_wp2
 go_loopg [1, 2] k (fun kq v1 v2 w' => ∃ (x1_1 : Int) (x2_1 : Int), v1 = .int .i64 x1_1 ∧ v2 = .int .u64 x2_1 ∧ Aside0 (gen_P64_22.l0 kq x1_1 x2_1 = some r) ∧ Aside0 (kq ≤ k) ∧ Drawn0 w w')
 case atStart => exact ⟨(0), (Go.bits .xor .u64 18446744073709551615 0), okT, okT, H', ⟨Nat.le_refl _⟩, by repeat (first | exact Drawn0.refl _ | apply Drawn0.step)⟩
 case round =>
  clear H'
  obtain ⟨x1_1, x2_1, rfl, rfl, HA, HK1, ⟨m1, rfl⟩⟩ := hrel
  cases gk with
  | zero => exact absurd HA.out (by simp [gen_P64_22.l0])
  | succ k1 =>
   have H := HA.out
   clear HA
   simp only [gen_P64_22.l0] at H
   by_cases c1 : x2_1 = 0
   ·rw [if_pos c1] at H
    obtain ⟨c1b0, c1b1⟩ := eqY c1
    clear c1
    obtain rfl := Option.some.inj H
    go_wp2
    go_ret
    exact ⟨okT, by repeat (first | exact Drawn0.refl _ | apply Drawn0.step)⟩
   ·rw [if_neg c1] at H
    obtain ⟨c1b0, c1b1⟩ := eqN c1
    have H' := Aside0.mk H
    clear H
    go_wp2
    go_roundg k1
    case measure => have := HK1.out; omega
    case rel => exact ⟨(wrap64 (x1_1 + 1)), (x2_1 / 2), okT, okT, H', ⟨by have := HK1.out; omega⟩, by repeat (first | exact Drawn0.refl _ | apply Drawn0.step)⟩

end Go.Proofs.Ytnlbfomlfhigcaa.Q
namespace Go.Proofs.Ytnlbfomlfhigcaa.Q
open Go.RowKit Go.Proofs.YtnlbfomlfhigcaaW.PrintWords Go.Proofs.YtnlbfomlfhigcaaW.PrintLast Go.Proofs.YtnlbfomlfhigcaaW.PrintMore
attribute [local go_sem] max2_int min2_int max_two min_two max_three min_three max_four min_four
set_option linter.unusedVariables false
set_option linter.unusedSimpArgs false

def gen_P8_57.l0 : Nat → Int → Int → Option (Int)
 | 0, _, _ => none
 | k + 1, x1, x2 => if x2 = 0 then (some x1) else (gen_P8_57.l0 k (wrap64 (x1 + 1)) (x2 / 2))
def gen_P8_57.f (k : Nat)  : Option (Int) := gen_P8_57.l0 k 0 (Go.bits .xor .u8 255 0)
theorem gen_P8_57.mono_l : ∀ k, (∀ y0 y1, LeO (gen_P8_57.l0 k y0 y1) (gen_P8_57.l0 (k + 1) y0 y1))
 | 0 => fun _ _ r h => by simp [gen_P8_57.l0] at h
 | k + 1 => by
  have ih0 := gen_P8_57.mono_l k
  ·intro y0 y1
   unfold gen_P8_57.l0
   repeat' first
   | (with_reducible exact ih0 _ _)
   | (with_reducible exact LeO.refl _)
   | (with_reducible exact LeO.none _)
   | (with_reducible refine LeO.ite ?_ ?_)
   | (with_reducible refine LeO.bind ?_ (fun _ => ?_))
   | exact ih0 _ _
   | exact LeO.none _
   | refine LeO.ite ?_ ?_
   | refine LeO.bind ?_ (fun _ => ?_)
theorem gen_P8_57.mono : ∀ k, LeO (gen_P8_57.f k ) (gen_P8_57.f (k + 1) ) := by
 intro  k
 have ih0 := gen_P8_57.mono_l k
 unfold gen_P8_57.f
 repeat' first
   | (with_reducible exact ih0 _ _)
   | (with_reducible exact LeO.refl _)
   | (with_reducible exact LeO.none _)
   | (with_reducible refine LeO.ite ?_ ?_)
   | (with_reducible refine LeO.bind ?_ (fun _ => ?_))
   | exact ih0 _ _
   | exact LeO.none _
   | refine LeO.ite ?_ ?_
   | refine LeO.bind ?_ (fun _ => ?_)
set_option maxHeartbeats 8000000 in
set_option maxRecDepth 100000 in
theorem gen_P8_57.calls (k : Nat)  (r : Int) (w : World) (h : gen_P8_57.f k  = some r) :
  Calls Try.prog 57 #[] w fun e w' => e = .returned (.int .i64 r) ∧ Drawn0 w w' := by
 have H := h
 clear h
 unfold gen_P8_57.f at H
 have H' := Aside0.mk H
 clear H
 go_enter Try.func57, Try.ntmps57
 go_wp2
 go_loopg [1, 2] k (fun kq v1 v2 w' => ∃ (x1_1 : Int) (x2_1 : Int), v1 = .int .i64 x1_1 ∧ v2 = .int .u8 x2_1 ∧ Aside0 (gen_P8_57.l0 kq x1_1 x2_1 = some r) ∧ Aside0 (kq ≤ k) ∧ Drawn0 w w')
 case atStart => exact ⟨(0), (Go.bits .xor .u8 255 0), okT, okT, H', ⟨Nat.le_refl _⟩, by repeat (first | exact Drawn0.refl _ | apply Drawn0.step)⟩
 case round =>
  clear H'
  obtain ⟨x1_1, x2_1, rfl, rfl, HA, HK1, ⟨m1, rfl⟩⟩ := hrel
  cases gk with
  | zero => exact absurd HA.out (by simp [gen_P8_57.l0])
  | succ k1 =>
   have H := HA.out
   clear HA
   simp only [gen_P8_57.l0] at H
   by_cases c1 : x2_1 = 0
   ·rw [if_pos c1] at H
    obtain ⟨c1b0, c1b1⟩ := eqY c1
    clear c1
    obtain rfl := Option.some.inj H
    go_wp2
    go_ret
    exact ⟨okT, by repeat (first | exact Drawn0.refl _ | apply Drawn0.step)⟩
   ·rw [if_neg c1] at H
    obtain ⟨c1b0, c1b1⟩ := eqN c1
    have H' := Aside0.mk H
    clear H
    go_wp2
    go_roundg k1
    case measure => have := HK1.out; omega
    case rel => exact ⟨(wrap64 (x1_1 + 1)), (x2_1 / 2), okT, okT, H', ⟨by have := HK1.out; omega⟩, by repeat (first | exact Drawn0.refl _ | apply Drawn0.step)⟩

end Go.Proofs.Ytnlbfomlfhigcaa.Q
namespace Go.Proofs.Ytnlbfomlfhigcaa.Q
open Go.RowKit Go.Proofs.YtnlbfomlfhigcaaW.PrintWords Go.Proofs.YtnlbfomlfhigcaaW.PrintLast Go.Proofs.YtnlbfomlfhigcaaW.PrintMore
attribute [local go_sem] max2_int min2_int max_two min_two max_three min_three max_four min_four
set_option linter.unusedVariables false
set_option linter.unusedSimpArgs false

def gen_P16_61.l0 : Nat → Int → Int → Option (Int)
 | 0, _, _ => none
 | k + 1, x1, x2 => if x2 = 0 then (some x1) else (gen_P16_61.l0 k (wrap64 (x1 + 1)) (x2 / 2))
def gen_P16_61.f (k : Nat)  : Option (Int) := gen_P16_61.l0 k 0 (Go.bits .xor .u16 65535 0)
theorem gen_P16_61.mono_l : ∀ k, (∀ y0 y1, LeO (gen_P16_61.l0 k y0 y1) (gen_P16_61.l0 (k + 1) y0 y1))
 | 0 => fun _ _ r h => by simp [gen_P16_61.l0] at h
 | k + 1 => by
  have ih0 := gen_P16_61.mono_l k
  ·intro y0 y1
   unfold gen_P16_61.l0
   repeat' first
   | (with_reducible exact ih0 _ _)
   | (with_reducible exact LeO.refl _)
   | (with_reducible exact LeO.none _)
   | (with_reducible refine LeO.ite ?_ ?_)
   | (with_reducible refine LeO.bind ?_ (fun _ => ?_))
   | exact ih0 _ _
   | exact LeO.none _
   | refine LeO.ite ?_ ?_
   | refine LeO.bind ?_ (fun _ => ?_)
theorem gen_P16_61.mono : ∀ k, LeO (gen_P16_61.f k ) (gen_P16_61.f (k + 1) ) := by
 intro  k
 have ih0 := gen_P16_61.mono_l k
 unfold gen_P16_61.f
 repeat' first
   | (with_reducible exact ih0 _ _)
   | (with_reducible exact LeO.refl _)
   | (with_reducible exact LeO.none _)
   | (with_reducible refine LeO.ite ?_ ?_)
   | (with_reducible refine LeO.bind ?_ (fun _ => ?_))
   | exact ih0 _ _
   | exact LeO.none _
   | refine LeO.ite ?_ ?_
   | refine LeO.bind ?_ (fun _ => ?_)
set_option maxHeartbeats 8000000 in
set_option maxRecDepth 100000 in
theorem gen_P16_61.calls (k : Nat)  (r : Int) (w : World) (h : gen_P16_61.f k  = some r) :
  Calls Try.prog 61 #[] w fun e w' => e = .returned (.int .i64 r) ∧ Drawn0 w w' := by
 have H := h
 clear h
 unfold gen_P16_61.f at H
 have H' := Aside0.mk H
 clear H
 go_enter Try.func61, Try.ntmps61
 go_wp2
 go_loopg [1, 2] k (fun kq v1 v2 w' => ∃ (x1_1 : Int) (x2_1 : Int), v1 = .int .i64 x1_1 ∧ v2 = .int .u16 x2_1 ∧ Aside0 (gen_P16_61.l0 kq x1_1 x2_1 = some r) ∧ Aside0 (kq ≤ k) ∧ Drawn0 w w')
 case atStart => exact ⟨(0), (Go.bits .xor .u16 65535 0), okT, okT, H', ⟨Nat.le_refl _⟩, by repeat (first | exact Drawn0.refl _ | apply Drawn0.step)⟩
 case round =>
  clear H'
  obtain ⟨x1_1, x2_1, rfl, rfl, HA, HK1, ⟨m1, rfl⟩⟩ := hrel
  cases gk with
  | zero => exact absurd HA.out (by simp [gen_P16_61.l0])
  | succ k1 =>
   have H := HA.out
   clear HA
   simp only [gen_P16_61.l0] at H
   by_cases c1 : x2_1 = 0
   ·rw [if_pos c1] at H
    obtain ⟨c1b0, c1b1⟩ := eqY c1
    clear c1
    obtain rfl := Option.some.inj H
    go_wp2
    go_ret
    exact ⟨okT, by repeat (first | exact Drawn0.refl _ | apply Drawn0.step)⟩
   ·rw [if_neg c1] at H
    obtain ⟨c1b0, c1b1⟩ := eqN c1
    have H' := Aside0.mk H
    clear H
    go_wp2
    go_roundg k1
    case measure => have := HK1.out; omega
    case rel => exact ⟨(wrap64 (x1_1 + 1)), (x2_1 / 2), okT, okT, H', ⟨by have := HK1.out; omega⟩, by repeat (first | exact Drawn0.refl _ | apply Drawn0.step)⟩

end Go.Proofs.Ytnlbfomlfhigcaa.Q
namespace Go.Proofs.Ytnlbfomlfhigcaa.Q
open Go.RowKit Go.Proofs.YtnlbfomlfhigcaaW.PrintWords Go.Proofs.YtnlbfomlfhigcaaW.PrintLast Go.Proofs.YtnlbfomlfhigcaaW.PrintMore
attribute [local go_sem] max2_int min2_int max_two min_two max_three min_three max_four min_four
set_option linter.unusedVariables false
set_option linter.unusedSimpArgs false

def gen_P32_63.l0 : Nat → Int → Int → Option (Int)
 | 0, _, _ => none
 | k + 1, x1, x2 => if x2 = 0 then (some x1) else (gen_P32_63.l0 k (wrap64 (x1 + 1)) (x2 / 2))
def gen_P32_63.f (k : Nat)  : Option (Int) := gen_P32_63.l0 k 0 (Go.bits .xor .u32 4294967295 0)
theorem gen_P32_63.mono_l : ∀ k, (∀ y0 y1, LeO (gen_P32_63.l0 k y0 y1) (gen_P32_63.l0 (k + 1) y0 y1))
 | 0 => fun _ _ r h => by simp [gen_P32_63.l0] at h
 | k + 1 => by
  have ih0 := gen_P32_63.mono_l k
  ·intro y0 y1
   unfold gen_P32_63.l0
   repeat' first
   | (with_reducible exact ih0 _ _)
   | (with_reducible exact LeO.refl _)
   | (with_reducible exact LeO.none _)
   | (with_reducible refine LeO.ite ?_ ?_)
   | (with_reducible refine LeO.bind ?_ (fun _ => ?_))
   | exact ih0 _ _
   | exact LeO.none _
   | refine LeO.ite ?_ ?_
   | refine LeO.bind ?_ (fun _ => ?_)
theorem gen_P32_63.mono : ∀ k, LeO (gen_P32_63.f k ) (gen_P32_63.f (k + 1) ) := by
 intro  k
 have ih0 := gen_P32_63.mono_l k
 unfold gen_P32_63.f
 repeat' first
   | (with_reducible exact ih0 _ _)
   | (with_reducible exact LeO.refl _)
   | (with_reducible exact LeO.none _)
   | (with_reducible refine LeO.ite ?_ ?_)
   | (with_reducible refine LeO.bind ?_ (fun _ => ?_))
   | exact ih0 _ _
   | exact LeO.none _
   | refine LeO.ite ?_ ?_
   | refine LeO.bind ?_ (fun _ => ?_)
set_option maxHeartbeats 8000000 in
set_option maxRecDepth 100000 in
theorem gen_P32_63.calls (k : Nat)  (r : Int) (w : World) (h : gen_P32_63.f k  = some r) :
  Calls Try.prog 63 #[] w fun e w' => e = .returned (.int .i64 r) ∧ Drawn0 w w' := by
 have H := h
 clear h
 unfold gen_P32_63.f at H
 have H' := Aside0.mk H
 clear H
 go_enter Try.func63, Try.ntmps63
 go_wp2
 go_loopg [1, 2] k (fun kq v1 v2 w' => ∃ (x1_1 : Int) (x2_1 : Int), v1 = .int .i64 x1_1 ∧ v2 = .int .u32 x2_1 ∧ Aside0 (gen_P32_63.l0 kq x1_1 x2_1 = some r) ∧ Aside0 (kq ≤ k) ∧ Drawn0 w w')
 case atStart => exact ⟨(0), (Go.bits .xor .u32 4294967295 0), okT, okT, H', ⟨Nat.le_refl _⟩, by repeat (first | exact Drawn0.refl _ | apply Drawn0.step)⟩
 case round =>
  clear H'
  obtain ⟨x1_1, x2_1, rfl, rfl, HA, HK1, ⟨m1, rfl⟩⟩ := hrel
  cases gk with
  | zero => exact absurd HA.out (by simp [gen_P32_63.l0])
  | succ k1 =>
   have H := HA.out
   clear HA
   simp only [gen_P32_63.l0] at H
   by_cases c1 : x2_1 = 0
   ·rw [if_pos c1] at H
    obtain ⟨c1b0, c1b1⟩ := eqY c1
    clear c1
    obtain rfl := Option.some.inj H
    go_wp2
    go_ret
    exact ⟨okT, by repeat (first | exact Drawn0.refl _ | apply Drawn0.step)⟩
   ·rw [if_neg c1] at H
    obtain ⟨c1b0, c1b1⟩ := eqN c1
    have H' := Aside0.mk H
    clear H
    go_wp2
    go_roundg k1
    case measure => have := HK1.out; omega
    case rel => exact ⟨(wrap64 (x1_1 + 1)), (x2_1 / 2), okT, okT, H', ⟨by have := HK1.out; omega⟩, by repeat (first | exact Drawn0.refl _ | apply Drawn0.step)⟩

end Go.Proofs.Ytnlbfomlfhigcaa.Q
