/- Walks and plain laws that the claim stands on: each theorem named calls says that a call of a function returns what its f computes; the others are plain laws of these f, and the words that the walks use. -/
import Derived.Laws.Externs
import Derived.Lib.ItoaNum
import Derived.LoopN
import Derived.RegionTactic
import Derived.BigRegion
import Derived.Test.YtnlbfomlfhigcaaTopRisesV2
import Derived.Test.YtnlbfomlfhigcaaTopRisesV3
namespace Go.Proofs.Ytnlbfomlfhigcaa.Q
open Go.RowKit Go.Proofs.YtnlbfomlfhigcaaW.PrintWords Go.Proofs.YtnlbfomlfhigcaaW.PrintLast Go.Proofs.YtnlbfomlfhigcaaW.PrintMore
theorem new_at {w : World} {o : Obj} {n : Nat} (h : w.heap.size = n) : (w.alloc o).heap[n]? = some o := h ▸ heap_alloc_new w o
def w64 (x : Int) : Prop := 0 ≤ x ∧ x ≤ 18446744073709551615
instance (x : Int) : Decidable (w64 x) := inferInstanceAs (Decidable (_ ∧ _))
theorem run_add (x y c : Int) (hx : 0 ≤ x) (hy : 0 ≤ y) (hc0 : 0 ≤ c) (hc : c ≤ 1) (w : World) : (callFunc 129 #[.int .u64 x, .int .u64 y, .int .u64 c]).run Try.prog w =
      .ok (.value (.tuple #[.int .u64 ((x + y + c) % 18446744073709551616), .int .u64 ((x + y + c) / 18446744073709551616)])) w := by
  rw [run_callFunc_extern Try.func129 (by kernel_rfl) (by kernel_rfl) (by kernel_rfl) (e := add64Entry) (by kernel_rfl), run_add64 x y c hx hy hc0 hc]
  rfl
def sub64E : Array Value → Sem Value := fun args => do
  let (x, y, b) ← Extern.MathBitsCarry.three "Sub64" args
  pure (Extern.MathBitsCarry.pair ((x + Extern.MathBitsCarry.m64 - y - b) % Extern.MathBitsCarry.m64) (if x < y + b then 1 else 0))
theorem run_sub64N (x y b : Nat) (hb : b ≤ 1) (w : World) :
    (sub64E #[.int .u64 x, .int .u64 y, .int .u64 b]).run Try.prog w =
      .ok (.tuple #[.int .u64 (((x + 18446744073709551616 - y - b) % 18446744073709551616 : Nat) : Int), .int .u64 ((if x < y + b then 1 else 0 : Nat) : Int)]) w := by
  have : b = 0 ∨ b = 1 := by omega
  rcases this with rfl | rfl <;> rfl
theorem run_sub (x y c : Int) (hx : 0 ≤ x) (hy : 0 ≤ y) (hy1 : y ≤ 18446744073709551615) (hc0 : 0 ≤ c) (hc : c ≤ 1) (w : World) : (callFunc 130 #[.int .u64 x, .int .u64 y, .int .u64 c]).run Try.prog w =
      .ok (.value (.tuple #[.int .u64 ((x - y - c) % 18446744073709551616), .int .u64 (if x < y + c then 1 else 0)])) w := by
  obtain ⟨x, rfl⟩ := Int.eq_ofNat_of_zero_le hx
  obtain ⟨y, rfl⟩ := Int.eq_ofNat_of_zero_le hy
  obtain ⟨c, rfl⟩ := Int.eq_ofNat_of_zero_le hc0
  rw [run_callFunc_extern Try.func130 (by kernel_rfl) (by kernel_rfl) (by kernel_rfl) (e := sub64E) (by kernel_rfl), run_sub64N x y c (by omega)]
  have e1 : (((x + 18446744073709551616 - y - c) % 18446744073709551616 : Nat) : Int) = ((x : Int) - y - c) % 18446744073709551616 := by omega
  have e2 : ((if x < y + c then 1 else 0 : Nat) : Int) = (if (x : Int) < (y : Int) + (c : Int) then 1 else 0 : Int) := by
    by_cases h : x < y + c
    · rw [if_pos h, if_pos (by omega)]; rfl
    · rw [if_neg h, if_neg (by omega)]; rfl
  rw [e1, e2]
  rfl
set_option maxHeartbeats 4000000 in
theorem wide_plus_walk (a0 a1 a2 a3 b0 b1 b2 b3 s0 s1 s2 s3 c0 c1 c2 c3 : Int) (w : World)
    (ha3 : ∀ w : World, (callFunc 129 #[.int .u64 a3, .int .u64 b3, .int .u64 0]).run Try.prog w = .ok (.value (.tuple #[.int .u64 s3, .int .u64 c3])) w)
    (ha2 : ∀ w : World, (callFunc 129 #[.int .u64 a2, .int .u64 b2, .int .u64 c3]).run Try.prog w = .ok (.value (.tuple #[.int .u64 s2, .int .u64 c2])) w)
    (ha1 : ∀ w : World, (callFunc 129 #[.int .u64 a1, .int .u64 b1, .int .u64 c2]).run Try.prog w = .ok (.value (.tuple #[.int .u64 s1, .int .u64 c1])) w)
    (ha0 : ∀ w : World, (callFunc 129 #[.int .u64 a0, .int .u64 b0, .int .u64 c1]).run Try.prog w = .ok (.value (.tuple #[.int .u64 s0, .int .u64 c0])) w) :
    Calls Try.prog 102 #[.agg #[.int .u64 a0, .int .u64 a1, .int .u64 a2, .int .u64 a3], .agg #[.int .u64 b0, .int .u64 b1, .int .u64 b2, .int .u64 b3]] w fun e w' => e = .returned (.tuple #[.agg #[.int .u64 s0, .int .u64 s1, .int .u64 s2, .int .u64 s3], .int .u64 c0]) ∧ Below w.heap.size w w' := by
  go_enter Try.func102, Try.ntmps102
  go_wp2
  refine wp_loop_rounds 5 ?_
  rw [rounds_succ]
  go_wp2
  go_region
  go_wp2
  rw [rounds_succ]
  go_wp2
  go_region
  go_wp2
  rw [rounds_succ]
  go_wp2
  go_region
  go_wp2
  rw [rounds_succ]
  go_wp2
  go_region
  go_wp2
  rw [rounds_succ]
  go_wp2
  refine bodyPost_ret (results_ct rfl _ _ (w.heap.size + 1 + 1) 137 #[.int .u64 s0, .int .u64 s1, .int .u64 s2, .int .u64 s3] (0, 0) _ rfl (by (with_reducible repeat (first | refine blk_drew ?_)); exact new_at (by simp)) Try.underlying137 rfl (by kernel_rfl)) rfl ⟨rfl, ?_⟩
  repeat (first | exact Below.refl _ _ | apply below_alloc | apply below_drew1)
set_option maxHeartbeats 4000000 in
theorem wide_less_walk (a0 a1 a2 a3 b0 b1 b2 b3 cc s0 s1 s2 s3 c0 c1 c2 c3 : Int) (w : World)
    (ha3 : ∀ w : World, (callFunc 130 #[.int .u64 a3, .int .u64 b3, .int .u64 cc]).run Try.prog w = .ok (.value (.tuple #[.int .u64 s3, .int .u64 c3])) w)
    (ha2 : ∀ w : World, (callFunc 130 #[.int .u64 a2, .int .u64 b2, .int .u64 c3]).run Try.prog w = .ok (.value (.tuple #[.int .u64 s2, .int .u64 c2])) w)
    (ha1 : ∀ w : World, (callFunc 130 #[.int .u64 a1, .int .u64 b1, .int .u64 c2]).run Try.prog w = .ok (.value (.tuple #[.int .u64 s1, .int .u64 c1])) w)
    (ha0 : ∀ w : World, (callFunc 130 #[.int .u64 a0, .int .u64 b0, .int .u64 c1]).run Try.prog w = .ok (.value (.tuple #[.int .u64 s0, .int .u64 c0])) w) :
    Calls Try.prog 103 #[.agg #[.int .u64 a0, .int .u64 a1, .int .u64 a2, .int .u64 a3], .agg #[.int .u64 b0, .int .u64 b1, .int .u64 b2, .int .u64 b3], .int .u64 cc] w fun e w' => e = .returned (.tuple #[.agg #[.int .u64 s0, .int .u64 s1, .int .u64 s2, .int .u64 s3], .int .u64 c0]) ∧ Below w.heap.size w w' := by
  go_enter Try.func103, Try.ntmps103
  go_wp2
  refine wp_loop_rounds 5 ?_
  rw [rounds_succ]
  go_wp2
  go_region
  go_wp2
  rw [rounds_succ]
  go_wp2
  go_region
  go_wp2
  rw [rounds_succ]
  go_wp2
  go_region
  go_wp2
  rw [rounds_succ]
  go_wp2
  go_region
  go_wp2
  rw [rounds_succ]
  go_wp2
  refine bodyPost_ret (results_ct rfl _ _ (w.heap.size + 1 + 1) 137 #[.int .u64 s0, .int .u64 s1, .int .u64 s2, .int .u64 s3] (0, 0) _ rfl (by (with_reducible repeat (first | refine blk_drew ?_)); exact new_at (by simp)) Try.underlying137 rfl (by kernel_rfl)) rfl ⟨rfl, ?_⟩
  repeat (first | exact Below.refl _ _ | apply below_alloc | apply below_drew1)
def addW (x y c : Int) : Int × Int := ((x + y + c) % 18446744073709551616, (x + y + c) / 18446744073709551616)
def subW (x y c : Int) : Int × Int := ((x - y - c) % 18446744073709551616, if x < y + c then 1 else 0)
def broad_wide_plus.f (a0_0 a0_1 a0_2 a0_3 a1_0 a1_1 a1_2 a1_3 : Int) : Option (Int × Int × Int × Int × Int) :=
  if w64 a0_0 ∧ w64 a0_1 ∧ w64 a0_2 ∧ w64 a0_3 ∧ w64 a1_0 ∧ w64 a1_1 ∧ w64 a1_2 ∧ w64 a1_3 then
    some ((addW a0_0 a1_0 (addW a0_1 a1_1 (addW a0_2 a1_2 (addW a0_3 a1_3 0).2).2).2).1, (addW a0_1 a1_1 (addW a0_2 a1_2 (addW a0_3 a1_3 0).2).2).1, (addW a0_2 a1_2 (addW a0_3 a1_3 0).2).1, (addW a0_3 a1_3 0).1, (addW a0_0 a1_0 (addW a0_1 a1_1 (addW a0_2 a1_2 (addW a0_3 a1_3 0).2).2).2).2)
  else none
theorem addW_c {x y c : Int} (hx : w64 x) (hy : w64 y) (h0 : 0 ≤ c) (h1 : c ≤ 1) : 0 ≤ (addW x y c).2 ∧ (addW x y c).2 ≤ 1 := by
  unfold addW w64 at *
  simp only
  omega
theorem subW_c {x y c : Int} : 0 ≤ (subW x y c).2 ∧ (subW x y c).2 ≤ 1 := by
  unfold subW
  simp only
  split <;> omega
theorem broad_wide_plus.calls (a0_0 a0_1 a0_2 a0_3 a1_0 a1_1 a1_2 a1_3 : Int) (r1 r2 r3 r4 r5 : Int) (w : World) (h : broad_wide_plus.f a0_0 a0_1 a0_2 a0_3 a1_0 a1_1 a1_2 a1_3 = some (r1, r2, r3, r4, r5)) :
    Calls Try.prog 102 #[.agg #[.int .u64 a0_0, .int .u64 a0_1, .int .u64 a0_2, .int .u64 a0_3], .agg #[.int .u64 a1_0, .int .u64 a1_1, .int .u64 a1_2, .int .u64 a1_3]] w fun e w' => e = .returned (.tuple #[.agg #[.int .u64 r1, .int .u64 r2, .int .u64 r3, .int .u64 r4], .int .u64 r5]) ∧ Below w.heap.size w w' := by
  unfold broad_wide_plus.f at h
  split at h
  · rename_i hc
    obtain ⟨p0, p1, p2, p3, q0, q1, q2, q3⟩ := hc
    simp only [Option.some.injEq, Prod.mk.injEq] at h
    obtain ⟨rfl, rfl, rfl, rfl, rfl⟩ := h
    have k3 := addW_c p3 q3 (c := 0) (by omega) (by omega)
    have k2 := addW_c p2 q2 k3.1 k3.2
    have k1 := addW_c p1 q1 k2.1 k2.2
    exact wide_plus_walk _ _ _ _ _ _ _ _ _ _ _ _ _ _ _ _ w (fun w => run_add _ _ _ p3.1 q3.1 (by omega) (by omega) w) (fun w => run_add _ _ _ p2.1 q2.1 k3.1 k3.2 w) (fun w => run_add _ _ _ p1.1 q1.1 k2.1 k2.2 w) (fun w => run_add _ _ _ p0.1 q0.1 k1.1 k1.2 w)
  · cases h
def broad_wide_less.f (a0_0 a0_1 a0_2 a0_3 a1_0 a1_1 a1_2 a1_3 a2 : Int) : Option (Int × Int × Int × Int × Int) :=
  if w64 a0_0 ∧ w64 a0_1 ∧ w64 a0_2 ∧ w64 a0_3 ∧ w64 a1_0 ∧ w64 a1_1 ∧ w64 a1_2 ∧ w64 a1_3 ∧ 0 ≤ a2 ∧ a2 ≤ 1 then
    some ((subW a0_0 a1_0 (subW a0_1 a1_1 (subW a0_2 a1_2 (subW a0_3 a1_3 a2).2).2).2).1, (subW a0_1 a1_1 (subW a0_2 a1_2 (subW a0_3 a1_3 a2).2).2).1, (subW a0_2 a1_2 (subW a0_3 a1_3 a2).2).1, (subW a0_3 a1_3 a2).1, (subW a0_0 a1_0 (subW a0_1 a1_1 (subW a0_2 a1_2 (subW a0_3 a1_3 a2).2).2).2).2)
  else none
theorem broad_wide_less.calls (a0_0 a0_1 a0_2 a0_3 a1_0 a1_1 a1_2 a1_3 a2 : Int) (r1 r2 r3 r4 r5 : Int) (w : World) (h : broad_wide_less.f a0_0 a0_1 a0_2 a0_3 a1_0 a1_1 a1_2 a1_3 a2 = some (r1, r2, r3, r4, r5)) :
    Calls Try.prog 103 #[.agg #[.int .u64 a0_0, .int .u64 a0_1, .int .u64 a0_2, .int .u64 a0_3], .agg #[.int .u64 a1_0, .int .u64 a1_1, .int .u64 a1_2, .int .u64 a1_3], .int .u64 a2] w fun e w' => e = .returned (.tuple #[.agg #[.int .u64 r1, .int .u64 r2, .int .u64 r3, .int .u64 r4], .int .u64 r5]) ∧ Below w.heap.size w w' := by
  unfold broad_wide_less.f at h
  split at h
  · rename_i hc
    obtain ⟨p0, p1, p2, p3, q0, q1, q2, q3, c0, c1⟩ := hc
    simp only [Option.some.injEq, Prod.mk.injEq] at h
    obtain ⟨rfl, rfl, rfl, rfl, rfl⟩ := h
    exact wide_less_walk _ _ _ _ _ _ _ _ _ _ _ _ _ _ _ _ _ w (fun w => run_sub _ _ _ p3.1 q3.1 q3.2 c0 c1 w) (fun w => run_sub _ _ _ p2.1 q2.1 q2.2 subW_c.1 subW_c.2 w) (fun w => run_sub _ _ _ p1.1 q1.1 q1.2 subW_c.1 subW_c.2 w) (fun w => run_sub _ _ _ p0.1 q0.1 q0.2 subW_c.1 subW_c.2 w)
  · cases h
theorem wrap_z (n : Int) : IntKind.u64.wrap (0 * 2 ^ n.toNat) = 0 := by rw [Int.zero_mul]; rfl
def upW (x y n : Int) : Int := Go.bits .or .u64 (IntKind.u64.wrap (x * 2 ^ n.toNat)) (y / 2 ^ (64 - n).toNat)
theorem upW_z (x n : Int) : upW x 0 n = Go.bits .or .u64 (IntKind.u64.wrap (x * 2 ^ n.toNat)) 0 := by unfold upW; rw [Int.zero_ediv]
set_option maxHeartbeats 4000000 in
theorem wide_raised_walk0z (a0 a1 a2 a3 : Int) (w : World) (hz : (a0 == 0) = false)
    (hl : ∀ w : World, Calls Try.prog 131 #[.int .u64 a0] w fun e w' => e = .returned (.int .i64 0) ∧ w' = w) :
    Calls Try.prog 104 #[.agg #[.int .u64 a0, .int .u64 a1, .int .u64 a2, .int .u64 a3]] w fun e w' => e = .returned (.tuple #[.agg #[.int .u64 a0, .int .u64 a1, .int .u64 a2, .int .u64 a3], .int .i64 0]) ∧ Below w.heap.size w w' := by
  go_enter Try.func104, Try.ntmps104
  go_wp2
  refine wp_loop_rounds 1 ?_
  rw [rounds_succ]
  go_wp2_with (go_at_call 131; refine (hl _).mono ?_; rintro e w' ⟨rfl, rfl⟩)
  refine bodyPost_ret (results_ct rfl _ _ (w.heap.size + 1) 137 #[.int .u64 a0, .int .u64 a1, .int .u64 a2, .int .u64 a3] (0, 0) _ rfl (by (with_reducible repeat (first | refine blk_drew ?_)); exact new_at (by simp)) Try.underlying137 rfl (by kernel_rfl)) rfl ⟨rfl, ?_⟩
  repeat (first | exact Below.refl _ _ | apply below_alloc | apply below_drew1)
set_option maxHeartbeats 4000000 in
theorem wide_raised_walk0 (a0 a1 a2 a3 n : Int) (w : World) (hz : (a0 == 0) = false) (hn : (n == 0) = false) (hn1 : 1 ≤ n) (hn2 : n ≤ 63)
    (hl : ∀ w : World, Calls Try.prog 131 #[.int .u64 a0] w fun e w' => e = .returned (.int .i64 n) ∧ w' = w) :
    Calls Try.prog 104 #[.agg #[.int .u64 a0, .int .u64 a1, .int .u64 a2, .int .u64 a3]] w fun e w' => e = .returned (.tuple #[.agg #[.int .u64 (Go.bits .or .u64 (IntKind.u64.wrap (a0 * 2 ^ n.toNat)) (a1 / 2 ^ (64 - n).toNat)), .int .u64 (Go.bits .or .u64 (IntKind.u64.wrap (a1 * 2 ^ n.toNat)) (a2 / 2 ^ (64 - n).toNat)), .int .u64 (Go.bits .or .u64 (IntKind.u64.wrap (a2 * 2 ^ n.toNat)) (a3 / 2 ^ (64 - n).toNat)), .int .u64 (IntKind.u64.wrap (a3 * 2 ^ n.toNat))], .int .i64 n]) ∧ Below w.heap.size w w' := by
  go_enter Try.func104, Try.ntmps104
  go_wp2
  refine wp_loop_rounds 1 ?_
  rw [rounds_succ]
  go_wp2_with (go_at_call 131; refine (hl _).mono ?_; rintro e w' ⟨rfl, rfl⟩)
  refine wp_loop_rounds 4 ?_
  rw [rounds_succ]
  go_wp2
  go_region
  go_wp2
  rw [rounds_succ]
  go_wp2
  go_region
  go_wp2
  rw [rounds_succ]
  go_wp2
  go_region
  go_wp2
  rw [rounds_succ]
  go_wp2
  refine bodyPost_ret (results_ct rfl _ _ (w.heap.size + 1) 137 #[.int .u64 (Go.bits .or .u64 (IntKind.u64.wrap (a0 * 2 ^ n.toNat)) (a1 / 2 ^ (64 - n).toNat)), .int .u64 (Go.bits .or .u64 (IntKind.u64.wrap (a1 * 2 ^ n.toNat)) (a2 / 2 ^ (64 - n).toNat)), .int .u64 (Go.bits .or .u64 (IntKind.u64.wrap (a2 * 2 ^ n.toNat)) (a3 / 2 ^ (64 - n).toNat)), .int .u64 (IntKind.u64.wrap (a3 * 2 ^ n.toNat))] (0, 0) _ rfl (by (with_reducible repeat (first | refine blk_drew ?_)); exact new_at (by simp)) Try.underlying137 rfl (by kernel_rfl)) rfl ⟨rfl, ?_⟩
  repeat (first | exact Below.refl _ _ | apply below_alloc | apply below_drew1)
set_option maxHeartbeats 4000000 in
theorem wide_raised_walk1z (a1 a2 a3 : Int) (w : World) (hz : (a1 == 0) = false)
    (hl : ∀ w : World, Calls Try.prog 131 #[.int .u64 a1] w fun e w' => e = .returned (.int .i64 0) ∧ w' = w) :
    Calls Try.prog 104 #[.agg #[.int .u64 0, .int .u64 a1, .int .u64 a2, .int .u64 a3]] w fun e w' => e = .returned (.tuple #[.agg #[.int .u64 a1, .int .u64 a2, .int .u64 a3, .int .u64 0], .int .i64 64]) ∧ Below w.heap.size w w' := by
  go_enter Try.func104, Try.ntmps104
  go_wp2
  refine wp_loop_rounds 2 ?_
  rw [rounds_succ]
  go_wp2
  rw [rounds_succ]
  go_wp2_with (go_at_call 131; refine (hl _).mono ?_; rintro e w' ⟨rfl, rfl⟩)
  refine bodyPost_ret (results_ct rfl _ _ (w.heap.size + 1) 137 #[.int .u64 a1, .int .u64 a2, .int .u64 a3, .int .u64 0] (0, 0) _ rfl (by (with_reducible repeat (first | refine blk_drew ?_)); exact new_at (by simp)) Try.underlying137 rfl (by kernel_rfl)) rfl ⟨rfl, ?_⟩
  repeat (first | exact Below.refl _ _ | apply below_alloc | apply below_drew1)
set_option maxHeartbeats 4000000 in
theorem wide_raised_walk1 (a1 a2 a3 n : Int) (w : World) (hz : (a1 == 0) = false) (hn : (n == 0) = false) (hn1 : 1 ≤ n) (hn2 : n ≤ 63)
    (hl : ∀ w : World, Calls Try.prog 131 #[.int .u64 a1] w fun e w' => e = .returned (.int .i64 n) ∧ w' = w) :
    Calls Try.prog 104 #[.agg #[.int .u64 0, .int .u64 a1, .int .u64 a2, .int .u64 a3]] w fun e w' => e = .returned (.tuple #[.agg #[.int .u64 (Go.bits .or .u64 (IntKind.u64.wrap (a1 * 2 ^ n.toNat)) (a2 / 2 ^ (64 - n).toNat)), .int .u64 (Go.bits .or .u64 (IntKind.u64.wrap (a2 * 2 ^ n.toNat)) (a3 / 2 ^ (64 - n).toNat)), .int .u64 (Go.bits .or .u64 (IntKind.u64.wrap (a3 * 2 ^ n.toNat)) 0), .int .u64 0], .int .i64 (64 + n)]) ∧ Below w.heap.size w w' := by
  go_enter Try.func104, Try.ntmps104
  go_wp2
  refine wp_loop_rounds 2 ?_
  rw [rounds_succ]
  go_wp2
  rw [rounds_succ]
  go_wp2_with (go_at_call 131; refine (hl _).mono ?_; rintro e w' ⟨rfl, rfl⟩)
  refine wp_loop_rounds 4 ?_
  rw [rounds_succ]
  go_wp2
  go_region
  go_wp2
  rw [rounds_succ]
  go_wp2
  go_region
  go_wp2
  rw [rounds_succ]
  go_wp2
  go_region
  go_wp2
  rw [rounds_succ]
  go_wp2
  refine bodyPost_ret (results_ct rfl _ _ (w.heap.size + 1) 137 #[.int .u64 (Go.bits .or .u64 (IntKind.u64.wrap (a1 * 2 ^ n.toNat)) (a2 / 2 ^ (64 - n).toNat)), .int .u64 (Go.bits .or .u64 (IntKind.u64.wrap (a2 * 2 ^ n.toNat)) (a3 / 2 ^ (64 - n).toNat)), .int .u64 (Go.bits .or .u64 (IntKind.u64.wrap (a3 * 2 ^ n.toNat)) 0), .int .u64 0] (0, 0) _ rfl (by (with_reducible repeat (first | refine blk_drew ?_)); exact new_at (by simp)) Try.underlying137 rfl (by kernel_rfl)) rfl ⟨rfl, ?_⟩
  repeat (first | exact Below.refl _ _ | apply below_alloc | apply below_drew1)
set_option maxHeartbeats 4000000 in
theorem wide_raised_walk2z (a2 a3 : Int) (w : World) (hz : (a2 == 0) = false)
    (hl : ∀ w : World, Calls Try.prog 131 #[.int .u64 a2] w fun e w' => e = .returned (.int .i64 0) ∧ w' = w) :
    Calls Try.prog 104 #[.agg #[.int .u64 0, .int .u64 0, .int .u64 a2, .int .u64 a3]] w fun e w' => e = .returned (.tuple #[.agg #[.int .u64 a2, .int .u64 a3, .int .u64 0, .int .u64 0], .int .i64 128]) ∧ Below w.heap.size w w' := by
  go_enter Try.func104, Try.ntmps104
  go_wp2
  refine wp_loop_rounds 3 ?_
  rw [rounds_succ]
  go_wp2
  rw [rounds_succ]
  go_wp2
  rw [rounds_succ]
  go_wp2_with (go_at_call 131; refine (hl _).mono ?_; rintro e w' ⟨rfl, rfl⟩)
  refine bodyPost_ret (results_ct rfl _ _ (w.heap.size + 1) 137 #[.int .u64 a2, .int .u64 a3, .int .u64 0, .int .u64 0] (0, 0) _ rfl (by (with_reducible repeat (first | refine blk_drew ?_)); exact new_at (by simp)) Try.underlying137 rfl (by kernel_rfl)) rfl ⟨rfl, ?_⟩
  repeat (first | exact Below.refl _ _ | apply below_alloc | apply below_drew1)
set_option maxHeartbeats 4000000 in
theorem wide_raised_walk2 (a2 a3 n : Int) (w : World) (hz : (a2 == 0) = false) (hn : (n == 0) = false) (hn1 : 1 ≤ n) (hn2 : n ≤ 63)
    (hl : ∀ w : World, Calls Try.prog 131 #[.int .u64 a2] w fun e w' => e = .returned (.int .i64 n) ∧ w' = w) :
    Calls Try.prog 104 #[.agg #[.int .u64 0, .int .u64 0, .int .u64 a2, .int .u64 a3]] w fun e w' => e = .returned (.tuple #[.agg #[.int .u64 (Go.bits .or .u64 (IntKind.u64.wrap (a2 * 2 ^ n.toNat)) (a3 / 2 ^ (64 - n).toNat)), .int .u64 (Go.bits .or .u64 (IntKind.u64.wrap (a3 * 2 ^ n.toNat)) 0), .int .u64 (Go.bits .or .u64 0 0), .int .u64 0], .int .i64 (128 + n)]) ∧ Below w.heap.size w w' := by
  go_enter Try.func104, Try.ntmps104
  go_wp2
  refine wp_loop_rounds 3 ?_
  rw [rounds_succ]
  go_wp2
  rw [rounds_succ]
  go_wp2
  rw [rounds_succ]
  go_wp2_with (go_at_call 131; refine (hl _).mono ?_; rintro e w' ⟨rfl, rfl⟩)
  refine wp_loop_rounds 4 ?_
  rw [rounds_succ]
  go_wp2
  go_region
  go_wp2
  rw [rounds_succ]
  go_wp2
  go_region
  go_wp2
  rw [rounds_succ]
  go_wp2
  go_region
  go_wp2
  rw [rounds_succ]
  go_wp2
  refine bodyPost_ret (results_ct rfl _ _ (w.heap.size + 1) 137 #[.int .u64 (Go.bits .or .u64 (IntKind.u64.wrap (a2 * 2 ^ n.toNat)) (a3 / 2 ^ (64 - n).toNat)), .int .u64 (Go.bits .or .u64 (IntKind.u64.wrap (a3 * 2 ^ n.toNat)) 0), .int .u64 (Go.bits .or .u64 0 0), .int .u64 0] (0, 0) _ rfl (by (with_reducible repeat (first | refine blk_drew ?_)); exact new_at (by simp)) Try.underlying137 rfl (by kernel_rfl)) rfl ⟨rfl, ?_⟩
  repeat (first | exact Below.refl _ _ | apply below_alloc | apply below_drew1)
set_option maxHeartbeats 4000000 in
theorem wide_raised_walk3z (a3 : Int) (w : World) (hz : (a3 == 0) = false)
    (hl : ∀ w : World, Calls Try.prog 131 #[.int .u64 a3] w fun e w' => e = .returned (.int .i64 0) ∧ w' = w) :
    Calls Try.prog 104 #[.agg #[.int .u64 0, .int .u64 0, .int .u64 0, .int .u64 a3]] w fun e w' => e = .returned (.tuple #[.agg #[.int .u64 a3, .int .u64 0, .int .u64 0, .int .u64 0], .int .i64 192]) ∧ Below w.heap.size w w' := by
  go_enter Try.func104, Try.ntmps104
  go_wp2
  refine wp_loop_rounds 4 ?_
  rw [rounds_succ]
  go_wp2
  rw [rounds_succ]
  go_wp2
  rw [rounds_succ]
  go_wp2
  rw [rounds_succ]
  go_wp2_with (go_at_call 131; refine (hl _).mono ?_; rintro e w' ⟨rfl, rfl⟩)
  refine bodyPost_ret (results_ct rfl _ _ (w.heap.size + 1) 137 #[.int .u64 a3, .int .u64 0, .int .u64 0, .int .u64 0] (0, 0) _ rfl (by (with_reducible repeat (first | refine blk_drew ?_)); exact new_at (by simp)) Try.underlying137 rfl (by kernel_rfl)) rfl ⟨rfl, ?_⟩
  repeat (first | exact Below.refl _ _ | apply below_alloc | apply below_drew1)
set_option maxHeartbeats 4000000 in
theorem wide_raised_walk3 (a3 n : Int) (w : World) (hz : (a3 == 0) = false) (hn : (n == 0) = false) (hn1 : 1 ≤ n) (hn2 : n ≤ 63)
    (hl : ∀ w : World, Calls Try.prog 131 #[.int .u64 a3] w fun e w' => e = .returned (.int .i64 n) ∧ w' = w) :
    Calls Try.prog 104 #[.agg #[.int .u64 0, .int .u64 0, .int .u64 0, .int .u64 a3]] w fun e w' => e = .returned (.tuple #[.agg #[.int .u64 (Go.bits .or .u64 (IntKind.u64.wrap (a3 * 2 ^ n.toNat)) 0), .int .u64 (Go.bits .or .u64 0 0), .int .u64 (Go.bits .or .u64 0 0), .int .u64 0], .int .i64 (192 + n)]) ∧ Below w.heap.size w w' := by
  go_enter Try.func104, Try.ntmps104
  go_wp2
  refine wp_loop_rounds 4 ?_
  rw [rounds_succ]
  go_wp2
  rw [rounds_succ]
  go_wp2
  rw [rounds_succ]
  go_wp2
  rw [rounds_succ]
  go_wp2_with (go_at_call 131; refine (hl _).mono ?_; rintro e w' ⟨rfl, rfl⟩)
  refine wp_loop_rounds 4 ?_
  rw [rounds_succ]
  go_wp2
  go_region
  go_wp2
  rw [rounds_succ]
  go_wp2
  go_region
  go_wp2
  rw [rounds_succ]
  go_wp2
  go_region
  go_wp2
  rw [rounds_succ]
  go_wp2
  refine bodyPost_ret (results_ct rfl _ _ (w.heap.size + 1) 137 #[.int .u64 (Go.bits .or .u64 (IntKind.u64.wrap (a3 * 2 ^ n.toNat)) 0), .int .u64 (Go.bits .or .u64 0 0), .int .u64 (Go.bits .or .u64 0 0), .int .u64 0] (0, 0) _ rfl (by (with_reducible repeat (first | refine blk_drew ?_)); exact new_at (by simp)) Try.underlying137 rfl (by kernel_rfl)) rfl ⟨rfl, ?_⟩
  repeat (first | exact Below.refl _ _ | apply below_alloc | apply below_drew1)
def raisedW (a b c d k : Int) : Int × Int × Int × Int × Int :=
  if 64 - (Lib.bitLen a.toNat : Int) = 0 then (a, b, c, d, k) else (upW a b (64 - (Lib.bitLen a.toNat : Int)), upW b c (64 - (Lib.bitLen a.toNat : Int)), upW c d (64 - (Lib.bitLen a.toNat : Int)), IntKind.u64.wrap (d * 2 ^ (64 - (Lib.bitLen a.toNat : Int)).toNat), k + (64 - (Lib.bitLen a.toNat : Int)))
def broad_wide_raised.f (a0_0 a0_1 a0_2 a0_3 : Int) : Option (Int × Int × Int × Int × Int) :=
  if w64 a0_0 ∧ w64 a0_1 ∧ w64 a0_2 ∧ w64 a0_3 then
    if a0_0 = 0 then if a0_1 = 0 then if a0_2 = 0 then if a0_3 = 0 then none else some (raisedW a0_3 0 0 0 192) else some (raisedW a0_2 a0_3 0 0 128) else some (raisedW a0_1 a0_2 a0_3 0 64) else some (raisedW a0_0 a0_1 a0_2 a0_3 0)
  else none
theorem bitLen_w {a : Int} (h : w64 a) (hz : ¬ a = 0) : 1 ≤ (Lib.bitLen a.toNat : Int) ∧ (Lib.bitLen a.toNat : Int) ≤ 64 := by
  unfold w64 at h
  have h1 := Lib.bitLen_le a.toNat 64 (by omega) (by omega)
  have h2 := Lib.bitLenAux_bounds 64 a.toNat (by omega) (by omega)
  have h3 : 1 ≤ Lib.bitLen a.toNat := h2.1
  omega
theorem broad_wide_raised.calls (a0_0 a0_1 a0_2 a0_3 : Int) (r1 r2 r3 r4 r5 : Int) (w : World) (h : broad_wide_raised.f a0_0 a0_1 a0_2 a0_3 = some (r1, r2, r3, r4, r5)) :
    Calls Try.prog 104 #[.agg #[.int .u64 a0_0, .int .u64 a0_1, .int .u64 a0_2, .int .u64 a0_3]] w fun e w' => e = .returned (.tuple #[.agg #[.int .u64 r1, .int .u64 r2, .int .u64 r3, .int .u64 r4], .int .i64 r5]) ∧ Below w.heap.size w w' := by
  unfold broad_wide_raised.f at h
  split at h
  · rename_i hc
    obtain ⟨p0, p1, p2, p3⟩ := hc
    by_cases hz0 : a0_0 = 0
    · rw [if_pos hz0] at h
      subst hz0
      by_cases hz1 : a0_1 = 0
      · rw [if_pos hz1] at h
        subst hz1
        by_cases hz2 : a0_2 = 0
        · rw [if_pos hz2] at h
          subst hz2
          by_cases hz3 : a0_3 = 0
          · rw [if_pos hz3] at h
            cases h
          · rw [if_neg hz3] at h
            have hb := bitLen_w p3 hz3
            have hl : ∀ w : World, Calls Try.prog 131 #[.int .u64 a0_3] w fun e w' => e = .returned (.int .i64 (64 - (Lib.bitLen a0_3.toNat : Int))) ∧ w' = w := fun w => Try.bits_LeadingZeros64 a0_3 w p3.1 p3.2
            unfold raisedW at h
            generalize Lib.bitLen a0_3.toNat = m at h hl hb
            split at h
            · rename_i hn
              simp only [Option.some.injEq, Prod.mk.injEq] at h
              obtain ⟨rfl, rfl, rfl, rfl, rfl⟩ := h
              rw [hn] at hl
              exact wide_raised_walk3z a0_3 w (beq_eq_false_iff_ne.mpr hz3) hl
            · rename_i hn
              simp only [Option.some.injEq, Prod.mk.injEq] at h
              obtain ⟨rfl, rfl, rfl, rfl, rfl⟩ := h
              obtain ⟨n, hnn⟩ : ∃ n : Int, n = 64 - (m : Int) := ⟨_, rfl⟩
              rw [← hnn] at hn hl ⊢
              simp only [upW_z, wrap_z]
              exact wide_raised_walk3 a0_3 n w (beq_eq_false_iff_ne.mpr hz3) (beq_eq_false_iff_ne.mpr hn) (by omega) (by omega) hl
        · rw [if_neg hz2] at h
          have hb := bitLen_w p2 hz2
          have hl : ∀ w : World, Calls Try.prog 131 #[.int .u64 a0_2] w fun e w' => e = .returned (.int .i64 (64 - (Lib.bitLen a0_2.toNat : Int))) ∧ w' = w := fun w => Try.bits_LeadingZeros64 a0_2 w p2.1 p2.2
          unfold raisedW at h
          generalize Lib.bitLen a0_2.toNat = m at h hl hb
          split at h
          · rename_i hn
            simp only [Option.some.injEq, Prod.mk.injEq] at h
            obtain ⟨rfl, rfl, rfl, rfl, rfl⟩ := h
            rw [hn] at hl
            exact wide_raised_walk2z a0_2 a0_3 w (beq_eq_false_iff_ne.mpr hz2) hl
          · rename_i hn
            simp only [Option.some.injEq, Prod.mk.injEq] at h
            obtain ⟨rfl, rfl, rfl, rfl, rfl⟩ := h
            obtain ⟨n, hnn⟩ : ∃ n : Int, n = 64 - (m : Int) := ⟨_, rfl⟩
            rw [← hnn] at hn hl ⊢
            simp only [upW_z, wrap_z]
            exact wide_raised_walk2 a0_2 a0_3 n w (beq_eq_false_iff_ne.mpr hz2) (beq_eq_false_iff_ne.mpr hn) (by omega) (by omega) hl
      · rw [if_neg hz1] at h
        have hb := bitLen_w p1 hz1
        have hl : ∀ w : World, Calls Try.prog 131 #[.int .u64 a0_1] w fun e w' => e = .returned (.int .i64 (64 - (Lib.bitLen a0_1.toNat : Int))) ∧ w' = w := fun w => Try.bits_LeadingZeros64 a0_1 w p1.1 p1.2
        unfold raisedW at h
        generalize Lib.bitLen a0_1.toNat = m at h hl hb
        split at h
        · rename_i hn
          simp only [Option.some.injEq, Prod.mk.injEq] at h
          obtain ⟨rfl, rfl, rfl, rfl, rfl⟩ := h
          rw [hn] at hl
          exact wide_raised_walk1z a0_1 a0_2 a0_3 w (beq_eq_false_iff_ne.mpr hz1) hl
        · rename_i hn
          simp only [Option.some.injEq, Prod.mk.injEq] at h
          obtain ⟨rfl, rfl, rfl, rfl, rfl⟩ := h
          obtain ⟨n, hnn⟩ : ∃ n : Int, n = 64 - (m : Int) := ⟨_, rfl⟩
          rw [← hnn] at hn hl ⊢
          simp only [upW_z, wrap_z]
          exact wide_raised_walk1 a0_1 a0_2 a0_3 n w (beq_eq_false_iff_ne.mpr hz1) (beq_eq_false_iff_ne.mpr hn) (by omega) (by omega) hl
    · rw [if_neg hz0] at h
      have hb := bitLen_w p0 hz0
      have hl : ∀ w : World, Calls Try.prog 131 #[.int .u64 a0_0] w fun e w' => e = .returned (.int .i64 (64 - (Lib.bitLen a0_0.toNat : Int))) ∧ w' = w := fun w => Try.bits_LeadingZeros64 a0_0 w p0.1 p0.2
      unfold raisedW at h
      generalize Lib.bitLen a0_0.toNat = m at h hl hb
      split at h
      · rename_i hn
        simp only [Option.some.injEq, Prod.mk.injEq] at h
        obtain ⟨rfl, rfl, rfl, rfl, rfl⟩ := h
        rw [hn] at hl
        exact wide_raised_walk0z a0_0 a0_1 a0_2 a0_3 w (beq_eq_false_iff_ne.mpr hz0) hl
      · rename_i hn
        simp only [Option.some.injEq, Prod.mk.injEq] at h
        obtain ⟨rfl, rfl, rfl, rfl, rfl⟩ := h
        obtain ⟨n, hnn⟩ : ∃ n : Int, n = 64 - (m : Int) := ⟨_, rfl⟩
        rw [← hnn] at hn hl ⊢
        rw [Int.zero_add]
        exact wide_raised_walk0 a0_0 a0_1 a0_2 a0_3 n w (beq_eq_false_iff_ne.mpr hz0) (beq_eq_false_iff_ne.mpr hn) (by omega) (by omega) hl
  · cases h
end Go.Proofs.Ytnlbfomlfhigcaa.Q
