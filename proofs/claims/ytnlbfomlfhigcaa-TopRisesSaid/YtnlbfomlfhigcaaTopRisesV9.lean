/- Walks and plain laws that the claim stands on: each theorem named calls says that a call of a function returns what its f computes; the others are plain laws of these f, and the words that the walks use. -/
import Derived.Test.YtnlbfomlfhigcaaTopRisesV2
import Derived.Test.YtnlbfomlfhigcaaTopRisesV8
namespace Go.Proofs.Ytnlbfomlfhigcaa.Q
open Go.RowKit Go.Proofs.YtnlbfomlfhigcaaW.PrintWords Go.Proofs.YtnlbfomlfhigcaaW.PrintLast Go.Proofs.YtnlbfomlfhigcaaW.PrintMore
attribute [local go_sem] max2_int min2_int max_two min_two max_three min_three max_four min_four
set_option linter.unusedVariables false
set_option linter.unusedSimpArgs false
attribute [local go_sem high] eqA137
def broad_wide_under.l0 : Nat → Int → Bool → Int → Int → Int → Int → Option (Int × Int × Int × Int × Bool)
 | 0, _, _, _, _, _, _ => none
 | k + 1, x1, x6, x281000, x281001, x281002, x281003 => if x1 ≥ 64 then (if x6 = true then (broad_wide_under.l0 k (wrap64 (x1 - 64)) true 0 x281000 x281001 x281002) else (broad_wide_under.l0 k (wrap64 (x1 - 64)) (x281003 != 0) 0 x281000 x281001 x281002)) else (if x1 = 0 then (some (x281000, x281001, x281002, x281003, x6)) else (if x6 = true then (if 0 ≤ x1 then (if 0 ≤ (wrap64 (64 - x1)) then (some (shr .u64 x281000 x1, Go.bits .or .u64 (shr .u64 x281001 x1) (shl .u64 x281000 (wrap64 (64 - x1))), Go.bits .or .u64 (shr .u64 x281002 x1) (shl .u64 x281001 (wrap64 (64 - x1))), Go.bits .or .u64 (shr .u64 x281003 x1) (shl .u64 x281002 (wrap64 (64 - x1))), true)) else (none)) else (none)) else (if 0 ≤ (wrap64 (64 - x1)) then (if 0 ≤ x1 then (some (shr .u64 x281000 x1, Go.bits .or .u64 (shr .u64 x281001 x1) (shl .u64 x281000 (wrap64 (64 - x1))), Go.bits .or .u64 (shr .u64 x281002 x1) (shl .u64 x281001 (wrap64 (64 - x1))), Go.bits .or .u64 (shr .u64 x281003 x1) (shl .u64 x281002 (wrap64 (64 - x1))), ((shl .u64 x281003 (wrap64 (64 - x1))) != 0))) else (none)) else (none))))
def broad_wide_under.f (k : Nat) (a0_0 : Int) (a0_1 : Int) (a0_2 : Int) (a0_3 : Int) (a1 : Int) : Option (Int × Int × Int × Int × Bool) := if a1 ≥ 256 then (some (0, 0, 0, 0, (!(a0_0 == 0) || (!(a0_1 == 0) || (!(a0_2 == 0) || (!(a0_3 == 0))))))) else (broad_wide_under.l0 k a1 false a0_0 a0_1 a0_2 a0_3)
def broad_wide_under.T11 : Bool × List (List Nat × List Nat) := (true, [([], []), ([0], [0]), ([], []), ([1, 2], [1, 2]), ([], []), ([4], [4]), ([], []), ([5, 6], [5, 6]), ([], []), ([8], [8]), ([], []), ([10], [10]), ([9, 11], [9, 11]), ([7, 12], [7, 12]), ([], []), ([14], [14]), ([], []), ([15, 16], [15, 16]), ([], []), ([18], [18]), ([], []), ([20], [20]), ([19, 21], [19, 21]), ([17, 22], [17, 22]), ([], []), ([24], [24]), ([], []), ([25, 26], [25, 26]), ([], []), ([28], [28]), ([], []), ([30], [30]), ([29, 31], [29, 31]), ([27, 32], [27, 32]), ([3, 13, 23, 33], [3, 13, 23, 33]), ([], []), ([34, 0, 1, 2, 3, 4, 5, 6, 7, 8, 9, 10, 11, 12, 13, 14, 15, 16, 17, 18, 19, 20, 21, 22, 23, 24, 25, 26, 27, 28, 29, 30, 31, 32, 33, 34], [34]), ([35, 36, 0, 1, 2, 3, 4, 5, 6, 7, 8, 9, 10, 11, 12, 13, 14, 15, 16, 17, 18, 19, 20, 21, 22, 23, 24, 25, 26, 27, 28, 29, 30, 31, 32, 33, 34, 35, 36], [35])])
def broad_wide_under.B11 : List Nat := [0, 1, 0, 7, 0, 16, 0, 112, 0, 256, 0, 1024, 3840, 8176, 0, 16384, 0, 114688, 0, 262144, 0, 1048576, 3932160, 8372224, 0, 16777216, 0, 117440512, 0, 268435456, 0, 1073741824, 4026531840, 8573157376, 17179869183, 0, 34359738367, 137438953471]
theorem broad_wide_under.tab11 : rtab .any (opsOf Try.f101 11) = broad_wide_under.T11 := by kernel_rfl
theorem broad_wide_under.bits11 : waitsOk broad_wide_under.T11.2 broad_wide_under.B11 = true := by kernel_rfl
set_option maxHeartbeats 8000000 in
set_option maxRecDepth 100000 in
theorem broad_wide_under.calls (k : Nat) (a0_0 : Int) (a0_1 : Int) (a0_2 : Int) (a0_3 : Int) (a1 : Int) (r1 : Int) (r2 : Int) (r3 : Int) (r4 : Int) (r5 : Bool) (w : World) (h : broad_wide_under.f k a0_0 a0_1 a0_2 a0_3 a1 = some (r1, r2, r3, r4, r5)) :
  Calls Try.prog 101 #[.agg #[.int .u64 a0_0, .int .u64 a0_1, .int .u64 a0_2, .int .u64 a0_3], .int .i64 a1] w fun e w' => e = .returned (.tuple #[.agg #[.int .u64 r1, .int .u64 r2, .int .u64 r3, .int .u64 r4], .bool r5]) ∧ Below w.heap.size w w' := by
 have hu137 := Try.underlying137
 have HB := Aside0.mk (Below.refl w.heap.size w)
 have H := h
 clear h
 unfold broad_wide_under.f at H
 by_cases c3 : a1 ≥ 256
 ·rw [if_pos c3] at H
  have c3b0 : decide (256 ≤ a1) = true := decide_eq_true c3
  clear c3
  simp only [Option.some.injEq, Prod.mk.injEq] at H
  obtain ⟨rfl, rfl, rfl, rfl, rfl⟩ := H
  go_enter Try.func101, Try.ntmps101
  try go_wp2_with (first | ((with_reducible refine gate_dst (N := 2) rfl ?_); refine boxA 2 (#[.int .u64 a0_0, .int .u64 a0_1, .int .u64 a0_2, .int .u64 a0_3]) 137 ?_; intro gb280 hg w4 BK280 hb; have GW280 := geT hg; have GE280 := GW280; replace HB := hbS hb; clear hb hg) | ((with_reducible refine gate_dst (N := 4) rfl ?_); refine boxA 4 (#[.int .u64 0, .int .u64 0, .int .u64 0, .int .u64 0]) 137 ?_; intro gb281 hg w5 BK281 hb; have GW281 := geT hg; have GE281 := GW281; obtain ⟨NB280_281, NB281_280⟩ := neT BK280 hg; replace BK280 := bkB BK280 hb; replace HB := hbS hb; clear hb hg))
  have n0_ := Aside0.mk (blk_drew BK280.out)
  have n1_ := Aside0.mk (blk_drew BK281.out)
  have n2_ := Aside0.mk (below_drew1 HB.out)
  clear BK280
  clear BK281
  clear HB
  have BK280 := n0_
  have BK281 := n1_
  have HB := n2_
  clear n0_ n1_ n2_
  refine start_ (n := 6) (S := fun w' => w'.cell? ⟨gb280, 0, none⟩ = some (.int .u64 a0_0) ∧ w'.cell? ⟨gb280, 1, none⟩ = some (.int .u64 a0_1) ∧ w'.cell? ⟨gb280, 2, none⟩ = some (.int .u64 a0_2) ∧ w'.cell? ⟨gb280, 3, none⟩ = some (.int .u64 a0_3)) (ds := []) #[false, false, false, false, false, false] (by kernel_rfl) rfl rfl ⟨(blk_cell BK280.out 0).trans rfl, (blk_cell BK280.out 1).trans rfl, (blk_cell BK280.out 2).trans rfl, (blk_cell BK280.out 3).trans rfl⟩ (fun hHeld => ?_)
  generalize w5.drew = w6 at BK280 BK281 HB hHeld ⊢
  refine pure_ (i := 0) (N := some 9) (v := ?_) (a' := ?_) #[true, false, false, false, false, false] rfl rfl (by kernel_rfl) (fun _ _ _ h => h) (Or.inl ⟨by rfl, ?_⟩) ?_ ?_
  rotate_left
  ·intro w'
   go_simp
   with_reducible rfl
  rotate_left
  ·simp only [Act.put, List.setIfInBounds_toArray, List.set_cons_zero, List.set_cons_succ, i64_w, i32_w]
   rfl
  refine pure_ (i := 2) (N := some 11) (v := ?_) (a' := ?_) #[true, false, true, false, false, false] rfl rfl (by kernel_rfl) (fun _ _ _ h => h) (Or.inl ⟨by rfl, ?_⟩) ?_ ?_
  rotate_left
  ·intro w'
   go_simp
   with_reducible rfl
  rotate_left
  ·simp only [Act.put, List.setIfInBounds_toArray, List.set_cons_zero, List.set_cons_succ, i64_w, i32_w]
   rfl
  refine take_ (i := 1) (N := some 10) (v := ?_) (a' := ?_) #[true, true, true, false, false, false] rfl rfl (by kernel_rfl) (fun _ _ _ h => h) (Or.inl ⟨by rfl, ?_⟩) hHeld ?_ ?_
  rotate_left
  ·rintro w' ⟨s0, s1, s2, s3⟩
   go_simp
   with_reducible rfl
  rotate_left
  ·simp only [Act.put, List.setIfInBounds_toArray, List.set_cons_zero, List.set_cons_succ, i64_w, i32_w]
   rfl
  refine pure_ (i := 3) (N := some 12) (v := ?_) (a' := ?_) #[true, true, true, true, false, false] rfl rfl (by kernel_rfl) (fun _ _ _ h => h) (Or.inl ⟨by rfl, ?_⟩) ?_ ?_
  rotate_left
  ·intro w'
   go_simp
   with_reducible rfl
  rotate_left
  ·simp only [Act.put, List.setIfInBounds_toArray, List.set_cons_zero, List.set_cons_succ, i64_w, i32_w]
   rfl
  refine one_ (i := 4) (N := none) #[true, true, true, true, true, false] rfl rfl (by kernel_rfl) (by decide) (fun K hK => ?_)
  have hs7 : w6.cell? ⟨gb281, 0, none⟩ = some (.int .u64 0) := (blk_cell BK281.out 0).trans rfl
  have hfs7 := blk_frozen BK281.out 0
  have hns7_0 := NB280_281.out
  have hms7_0 := NB281_280.out
  have hs8 : w6.cell? ⟨gb281, 1, none⟩ = some (.int .u64 0) := (blk_cell BK281.out 1).trans rfl
  have hfs8 := blk_frozen BK281.out 1
  have hns8_0 := NB280_281.out
  have hms8_0 := NB281_280.out
  have hs9 : w6.cell? ⟨gb281, 2, none⟩ = some (.int .u64 0) := (blk_cell BK281.out 2).trans rfl
  have hfs9 := blk_frozen BK281.out 2
  have hns9_0 := NB280_281.out
  have hms9_0 := NB281_280.out
  have hs10 : w6.cell? ⟨gb281, 3, none⟩ = some (.int .u64 0) := (blk_cell BK281.out 3).trans rfl
  have hfs10 := blk_frozen BK281.out 3
  have hns10_0 := NB280_281.out
  have hms10_0 := NB281_280.out
  refine skip_ (w1 := ?_) (by rfl) rfl ?_ ?_
  rotate_left
  ·go_simp
   rfl
  refine hK.out _ _ ⟨((cell_far (p := ⟨gb281, _, none⟩) NB280_281.out _).trans (((cell_far (p := ⟨gb281, _, none⟩) NB280_281.out _).trans (((cell_far (p := ⟨gb281, _, none⟩) NB280_281.out _).trans (((cell_far (p := ⟨gb281, _, none⟩) NB280_281.out _).trans (hHeld.1)))))))), ((cell_far (p := ⟨gb281, _, none⟩) NB280_281.out _).trans (((cell_far (p := ⟨gb281, _, none⟩) NB280_281.out _).trans (((cell_far (p := ⟨gb281, _, none⟩) NB280_281.out _).trans (((cell_far (p := ⟨gb281, _, none⟩) NB280_281.out _).trans (hHeld.2.1)))))))), ((cell_far (p := ⟨gb281, _, none⟩) NB280_281.out _).trans (((cell_far (p := ⟨gb281, _, none⟩) NB280_281.out _).trans (((cell_far (p := ⟨gb281, _, none⟩) NB280_281.out _).trans (((cell_far (p := ⟨gb281, _, none⟩) NB280_281.out _).trans (hHeld.2.2.1)))))))), ((cell_far (p := ⟨gb281, _, none⟩) NB280_281.out _).trans (((cell_far (p := ⟨gb281, _, none⟩) NB280_281.out _).trans (((cell_far (p := ⟨gb281, _, none⟩) NB280_281.out _).trans (((cell_far (p := ⟨gb281, _, none⟩) NB280_281.out _).trans (hHeld.2.2.2))))))))⟩ (fun hHeld => ?_)
  clear hK K
  refine pure_ (i := 5) (N := some 5) (v := ?_) (a' := ?_) #[true, true, true, true, true, true] rfl rfl (by kernel_rfl) (fun _ _ _ h => h) (Or.inl ⟨by rfl, ?_⟩) ?_ ?_
  rotate_left
  ·intro w'
   go_simp
   with_reducible rfl
  rotate_left
  ·simp only [Act.put, List.setIfInBounds_toArray, List.set_cons_zero, List.set_cons_succ, i64_w, i32_w]
   rfl
  refine done_ (by kernel_rfl) ?_
  try go_wp2
  refine bodyPost_ret (results_ct rfl _ _ gb281 137 #[.int .u64 0, .int .u64 0, .int .u64 0, .int .u64 0] (0, 0) _ rfl (bkT BK281) Try.underlying137 rfl (by kernel_rfl)) rfl ?_
  exact ⟨reT, hbT⟩
 ·rw [if_neg c3] at H
  have c3b0 : decide (256 ≤ a1) = false := decide_eq_false c3
  clear c3
  have H' := Aside0.mk H
  clear H
  go_enter Try.func101, Try.ntmps101
  go_wp2_with (first | ((with_reducible refine gate_dst (N := 2) rfl ?_); refine boxA 2 (#[.int .u64 a0_0, .int .u64 a0_1, .int .u64 a0_2, .int .u64 a0_3]) 137 ?_; intro gb280 hg w11 BK280 hb; have GW280 := geT hg; have GE280 := GW280; replace HB := hbS hb; clear hb hg) | ((with_reducible refine gate_dst (N := 4) rfl ?_); refine boxA 4 (#[.int .u64 0, .int .u64 0, .int .u64 0, .int .u64 0]) 137 ?_; intro gb281 hg w12 BK281 hb; have GW281 := geT hg; have GE281 := GW281; obtain ⟨NB280_281, NB281_280⟩ := neT BK280 hg; replace BK280 := bkB BK280 hb; replace HB := hbS hb; clear hb hg))
  go_loopg [1, 6] k (fun kq v1 v6 w' => ∃ (x1_1 : Int) (x6_1 : Bool) (x281000_1 : Int) (x281001_1 : Int) (x281002_1 : Int) (x281003_1 : Int), v1 = .int .i64 x1_1 ∧ v6 = .bool x6_1 ∧ Aside0 (broad_wide_under.l0 kq x1_1 x6_1 x281000_1 x281001_1 x281002_1 x281003_1 = some (r1, r2, r3, r4, r5)) ∧ Aside0 (kq ≤ k) ∧ Aside0 (w'.heap[gb280]? = some (.cells #[.int .u64 x281000_1, .int .u64 x281001_1, .int .u64 x281002_1, .int .u64 x281003_1] 137 (0, 0))) ∧ Aside0 (w'.heap[gb281]? = some (.cells #[.int .u64 0, .int .u64 0, .int .u64 0, .int .u64 0] 137 (0, 0))) ∧ Aside0 (Below w.heap.size w w'))
  case atStart => exact ⟨(a1), (false), (a0_0), (a0_1), (a0_2), (a0_3), okT, okT, H', ⟨Nat.le_refl _⟩, ⟨bkT BK280⟩, ⟨bkT BK281⟩, ⟨hbT⟩⟩
  case round =>
   clear H'
   try clear c3
   try clear c3b0
   obtain ⟨x1_1, x6_1, x281000_1, x281001_1, x281002_1, x281003_1, rfl, rfl, HA, HK1, BK280, BK281, HB⟩ := hrel
   cases gk with
   | zero => exact absurd HA.out (by simp [broad_wide_under.l0])
   | succ k1 =>
    have H := HA.out
    clear HA
    simp only [broad_wide_under.l0] at H
    by_cases c13 : x1_1 ≥ 64
    ·rw [if_pos c13] at H
     have c13b0 : decide (64 ≤ x1_1) = true := decide_eq_true c13
     clear c13
     by_cases c14 : x6_1 = true
     ·subst c14
      rw [if_pos rfl] at H
      have H' := Aside0.mk H
      clear H
      have hnb15 := NB280_281.out
      have hnc15 := NB281_280.out
      obtain ⟨z16_0, z16_1, z16_2, z16_3, y16_0, y16_1, y16_2, y16_3⟩ := cz4 BK280
      go_wp2
      go_roundg k1
      case measure => have := HK1.out; omega
      case rel => exact ⟨(wrap64 (x1_1 - 64)), (true), (0), (x281000_1), (x281001_1), (x281002_1), okT, okT, H', ⟨by have := HK1.out; omega⟩, ⟨bkT BK280⟩, ⟨bkT BK281⟩, ⟨hbT⟩⟩
     ·replace c14 := Bool.eq_false_iff.mpr c14
      subst c14
      rw [if_neg (show ¬ (false = true) by decide)] at H
      have H' := Aside0.mk H
      clear H
      have hnb17 := NB280_281.out
      have hnc17 := NB281_280.out
      obtain ⟨z18_0, z18_1, z18_2, z18_3, y18_0, y18_1, y18_2, y18_3⟩ := cz4 BK280
      go_wp2
      go_roundg k1
      case measure => have := HK1.out; omega
      case rel => exact ⟨(wrap64 (x1_1 - 64)), ((x281003_1 != 0)), (0), (x281000_1), (x281001_1), (x281002_1), okT, okT, H', ⟨by have := HK1.out; omega⟩, ⟨bkT BK280⟩, ⟨bkT BK281⟩, ⟨hbT⟩⟩
    ·rw [if_neg c13] at H
     have c13b0 : decide (64 ≤ x1_1) = false := decide_eq_false c13
     clear c13
     by_cases c19 : x1_1 = 0
     ·rw [if_pos c19] at H
      obtain ⟨c19b0, c19b1⟩ := eqY c19
      clear c19
      simp only [Option.some.injEq, Prod.mk.injEq] at H
      obtain ⟨rfl, rfl, rfl, rfl, rfl⟩ := H
      have hnb20 := NB280_281.out
      have hnc20 := NB281_280.out
      obtain ⟨z21_0, z21_1, z21_2, z21_3, y21_0, y21_1, y21_2, y21_3⟩ := cz4 BK280
      obtain ⟨z22_0, z22_1, z22_2, z22_3, y22_0, y22_1, y22_2, y22_3⟩ := cz4 BK281
      go_wp2
      refine bodyPost_ret (results_ct rfl _ _ gb281 137 #[.int .u64 x281000_1, .int .u64 x281001_1, .int .u64 x281002_1, .int .u64 x281003_1] (0, 0) _ rfl (bkT BK281) Try.underlying137 rfl (by kernel_rfl)) rfl ?_
      exact ⟨reT, hbT⟩
     ·rw [if_neg c19] at H
      obtain ⟨c19b0, c19b1⟩ := eqN c19
      by_cases c23 : x6_1 = true
      ·subst c23
       rw [if_pos rfl] at H
       by_cases c24 : 0 ≤ x1_1
       ·rw [if_pos c24] at H
        have c24b0 := eq_true c24
        have c24b1 : decide (0 ≤ x1_1) = true := decide_eq_true c24
        clear c24
        obtain ⟨ji25, hji25⟩ : ∃ j_ : Int, (shr .u64 x281000_1 x1_1) = j_ := ⟨_, rfl⟩
        replace H : (if 0 ≤ (wrap64 (64 - x1_1)) then (some (ji25, Go.bits .or .u64 (shr .u64 x281001_1 x1_1) (shl .u64 x281000_1 (wrap64 (64 - x1_1))), Go.bits .or .u64 (shr .u64 x281002_1 x1_1) (shl .u64 x281001_1 (wrap64 (64 - x1_1))), Go.bits .or .u64 (shr .u64 x281003_1 x1_1) (shl .u64 x281002_1 (wrap64 (64 - x1_1))), true)) else (none)) = some (r1, r2, r3, r4, r5) := by first | (rw [hji25] at H; exact H) | (simp only [hji25] at H ⊢; exact H)
        have hji25_ : (x281000_1 / 2 ^ min x1_1.toNat 64) = ji25 := hji25
        have hji25z : x1_1 ≤ 64 → (x281000_1 / 2 ^ x1_1.toNat) = ji25 := shr_small hji25
        have c26b0 := eq_true (of_decide_eq_true (by first | (with_reducible assumption) | assumption) : 0 ≤ x1_1)
        obtain ⟨ji27, hji27⟩ : ∃ j_ : Int, (shr .u64 x281001_1 x1_1) = j_ := ⟨_, rfl⟩
        replace H : (if 0 ≤ (wrap64 (64 - x1_1)) then (some (ji25, Go.bits .or .u64 (ji27) (shl .u64 x281000_1 (wrap64 (64 - x1_1))), Go.bits .or .u64 (shr .u64 x281002_1 x1_1) (shl .u64 x281001_1 (wrap64 (64 - x1_1))), Go.bits .or .u64 (shr .u64 x281003_1 x1_1) (shl .u64 x281002_1 (wrap64 (64 - x1_1))), true)) else (none)) = some (r1, r2, r3, r4, r5) := by first | (rw [hji27] at H; exact H) | (simp only [hji27] at H ⊢; exact H)
        have hji27_ : (x281001_1 / 2 ^ min x1_1.toNat 64) = ji27 := hji27
        have hji27z : x1_1 ≤ 64 → (x281001_1 / 2 ^ x1_1.toNat) = ji27 := shr_small hji27
        obtain ⟨ji28, hji28⟩ : ∃ j_ : Int, (wrap64 (64 - x1_1)) = j_ := ⟨_, rfl⟩
        replace H : (if 0 ≤ (ji28) then (some (ji25, Go.bits .or .u64 (ji27) (shl .u64 x281000_1 (ji28)), Go.bits .or .u64 (shr .u64 x281002_1 x1_1) (shl .u64 x281001_1 (ji28)), Go.bits .or .u64 (shr .u64 x281003_1 x1_1) (shl .u64 x281002_1 (ji28)), true)) else (none)) = some (r1, r2, r3, r4, r5) := by first | (rw [hji28] at H; exact H) | (simp only [hji28] at H ⊢; exact H)
        have hji28w : (IntKind.i64.wrap (64 - x1_1)) = ji28 := (i64_w _).trans hji28
        by_cases c29 : 0 ≤ (ji28)
        ·rw [if_pos c29] at H
         have c29b0 := eq_true c29
         have c29b1 : decide (0 ≤ (ji28)) = true := decide_eq_true c29
         clear c29
         obtain ⟨ji30, hji30⟩ : ∃ j_ : Int, (shl .u64 x281000_1 (ji28)) = j_ := ⟨_, rfl⟩
         replace H : (some (ji25, Go.bits .or .u64 (ji27) (ji30), Go.bits .or .u64 (shr .u64 x281002_1 x1_1) (shl .u64 x281001_1 (ji28)), Go.bits .or .u64 (shr .u64 x281003_1 x1_1) (shl .u64 x281002_1 (ji28)), true)) = some (r1, r2, r3, r4, r5) := by first | (rw [hji30] at H; exact H) | (simp only [hji30] at H ⊢; exact H)
         have hji30_ : (IntKind.u64.wrap (x281000_1 * 2 ^ min (ji28).toNat 64)) = ji30 := hji30
         have hji30z : (ji28) ≤ 64 → (IntKind.u64.wrap (x281000_1 * 2 ^ (ji28).toNat)) = ji30 := shl_small hji30
         have c31b0 := eq_true (of_decide_eq_true (by first | (with_reducible assumption) | assumption) : 0 ≤ x1_1)
         obtain ⟨ji32, hji32⟩ : ∃ j_ : Int, (shr .u64 x281002_1 x1_1) = j_ := ⟨_, rfl⟩
         replace H : (some (ji25, Go.bits .or .u64 (ji27) (ji30), Go.bits .or .u64 (ji32) (shl .u64 x281001_1 (ji28)), Go.bits .or .u64 (shr .u64 x281003_1 x1_1) (shl .u64 x281002_1 (ji28)), true)) = some (r1, r2, r3, r4, r5) := by first | (rw [hji32] at H; exact H) | (simp only [hji32] at H ⊢; exact H)
         have hji32_ : (x281002_1 / 2 ^ min x1_1.toNat 64) = ji32 := hji32
         have hji32z : x1_1 ≤ 64 → (x281002_1 / 2 ^ x1_1.toNat) = ji32 := shr_small hji32
         have c33b0 := eq_true (of_decide_eq_true (by first | (with_reducible assumption) | assumption) : 0 ≤ (ji28))
         obtain ⟨ji34, hji34⟩ : ∃ j_ : Int, (shl .u64 x281001_1 (ji28)) = j_ := ⟨_, rfl⟩
         replace H : (some (ji25, Go.bits .or .u64 (ji27) (ji30), Go.bits .or .u64 (ji32) (ji34), Go.bits .or .u64 (shr .u64 x281003_1 x1_1) (shl .u64 x281002_1 (ji28)), true)) = some (r1, r2, r3, r4, r5) := by first | (rw [hji34] at H; exact H) | (simp only [hji34] at H ⊢; exact H)
         have hji34_ : (IntKind.u64.wrap (x281001_1 * 2 ^ min (ji28).toNat 64)) = ji34 := hji34
         have hji34z : (ji28) ≤ 64 → (IntKind.u64.wrap (x281001_1 * 2 ^ (ji28).toNat)) = ji34 := shl_small hji34
         have c35b0 := eq_true (of_decide_eq_true (by first | (with_reducible assumption) | assumption) : 0 ≤ x1_1)
         obtain ⟨ji36, hji36⟩ : ∃ j_ : Int, (shr .u64 x281003_1 x1_1) = j_ := ⟨_, rfl⟩
         replace H : (some (ji25, Go.bits .or .u64 (ji27) (ji30), Go.bits .or .u64 (ji32) (ji34), Go.bits .or .u64 (ji36) (shl .u64 x281002_1 (ji28)), true)) = some (r1, r2, r3, r4, r5) := by first | (rw [hji36] at H; exact H) | (simp only [hji36] at H ⊢; exact H)
         have hji36_ : (x281003_1 / 2 ^ min x1_1.toNat 64) = ji36 := hji36
         have hji36z : x1_1 ≤ 64 → (x281003_1 / 2 ^ x1_1.toNat) = ji36 := shr_small hji36
         have c37b0 := eq_true (of_decide_eq_true (by first | (with_reducible assumption) | assumption) : 0 ≤ (ji28))
         obtain ⟨ji38, hji38⟩ : ∃ j_ : Int, (shl .u64 x281002_1 (ji28)) = j_ := ⟨_, rfl⟩
         replace H : (some (ji25, Go.bits .or .u64 (ji27) (ji30), Go.bits .or .u64 (ji32) (ji34), Go.bits .or .u64 (ji36) (ji38), true)) = some (r1, r2, r3, r4, r5) := by first | (rw [hji38] at H; exact H) | (simp only [hji38] at H ⊢; exact H)
         have hji38_ : (IntKind.u64.wrap (x281002_1 * 2 ^ min (ji28).toNat 64)) = ji38 := hji38
         have hji38z : (ji28) ≤ 64 → (IntKind.u64.wrap (x281002_1 * 2 ^ (ji28).toNat)) = ji38 := shl_small hji38
         simp only [Option.some.injEq, Prod.mk.injEq] at H
         obtain ⟨rfl, rfl, rfl, rfl, rfl⟩ := H
         try go_wp2
         have n0_ := Aside0.mk (blk_drew BK280.out)
         have n1_ := Aside0.mk (blk_drew BK281.out)
         have n2_ := Aside0.mk (below_drew1 HB.out)
         clear BK280
         clear BK281
         clear HB
         have BK280 := n0_
         have BK281 := n1_
         have HB := n2_
         clear n0_ n1_ n2_
         refine start_ (n := 38) (S := fun w' => w'.cell? ⟨gb280, 0, none⟩ = some (.int .u64 x281000_1) ∧ w'.cell? ⟨gb280, 1, none⟩ = some (.int .u64 x281001_1) ∧ w'.cell? ⟨gb280, 2, none⟩ = some (.int .u64 x281002_1) ∧ w'.cell? ⟨gb280, 3, none⟩ = some (.int .u64 x281003_1)) (ds := []) #[false, false, false, false, false, false, false, false, false, false, false, false, false, false, false, false, false, false, false, false, false, false, false, false, false, false, false, false, false, false, false, false, false, false, false, false, false, false] (by kernel_rfl) rfl rfl ⟨(blk_cell BK280.out 0).trans rfl, (blk_cell BK280.out 1).trans rfl, (blk_cell BK280.out 2).trans rfl, (blk_cell BK280.out 3).trans rfl⟩ (fun hHeld => ?_); refine with_tabW broad_wide_under.tab11 broad_wide_under.bits11 (fun HT_ HW_ => ?_)
         generalize wr.drew = w39 at BK280 BK281 HB hHeld ⊢
         refine pure_ (i := 0) (N := some 43) (v := ?_) (a' := ?_) #[true, false, false, false, false, false, false, false, false, false, false, false, false, false, false, false, false, false, false, false, false, false, false, false, false, false, false, false, false, false, false, false, false, false, false, false, false, false] rfl rfl (any_of HT_.out (by kernel_rfl)) (fun _ _ _ h => h) (Or.inl ⟨by rfl, ?_⟩) ?_ ?_
         rotate_left
         ·intro w'
          go_simp
          with_reducible rfl
         rotate_left
         ·simp only [Act.put, List.setIfInBounds_toArray, List.set_cons_zero, List.set_cons_succ, i64_w, i32_w]
          rfl
         refine pure_ (i := 2) (N := some 45) (v := ?_) (a' := ?_) #[true, false, true, false, false, false, false, false, false, false, false, false, false, false, false, false, false, false, false, false, false, false, false, false, false, false, false, false, false, false, false, false, false, false, false, false, false, false] rfl rfl (any_of HT_.out (by kernel_rfl)) (fun _ _ _ h => h) (Or.inl ⟨by rfl, ?_⟩) ?_ ?_
         rotate_left
         ·intro w'
          go_simp
          with_reducible rfl
         rotate_left
         ·simp only [Act.put, List.setIfInBounds_toArray, List.set_cons_zero, List.set_cons_succ, i64_w, i32_w]
          rfl
         refine pure_ (i := 4) (N := some 47) (v := ?_) (a' := ?_) #[true, false, true, false, true, false, false, false, false, false, false, false, false, false, false, false, false, false, false, false, false, false, false, false, false, false, false, false, false, false, false, false, false, false, false, false, false, false] rfl rfl (any_of HT_.out (by kernel_rfl)) (fun _ _ _ h => h) (Or.inl ⟨by rfl, ?_⟩) ?_ ?_
         rotate_left
         ·intro w'
          go_simp
          with_reducible rfl
         rotate_left
         ·simp only [Act.put, List.setIfInBounds_toArray, List.set_cons_zero, List.set_cons_succ, i64_w, i32_w]
          rfl
         refine pure_ (i := 6) (N := some 49) (v := ?_) (a' := ?_) #[true, false, true, false, true, false, true, false, false, false, false, false, false, false, false, false, false, false, false, false, false, false, false, false, false, false, false, false, false, false, false, false, false, false, false, false, false, false] rfl rfl (any_of HT_.out (by kernel_rfl)) (fun _ _ _ h => h) (Or.inl ⟨by rfl, ?_⟩) ?_ ?_
         rotate_left
         ·intro w'
          go_simp
          with_reducible rfl
         rotate_left
         ·simp only [Act.put, List.setIfInBounds_toArray, List.set_cons_zero, List.set_cons_succ, i64_w, i32_w]
          rfl
         refine pure_ (i := 8) (N := some 51) (v := ?_) (a' := ?_) #[true, false, true, false, true, false, true, false, true, false, false, false, false, false, false, false, false, false, false, false, false, false, false, false, false, false, false, false, false, false, false, false, false, false, false, false, false, false] rfl rfl (any_of HT_.out (by kernel_rfl)) (fun _ _ _ h => h) (Or.inl ⟨by rfl, ?_⟩) ?_ ?_
         rotate_left
         ·intro w'
          go_simp
          with_reducible rfl
         rotate_left
         ·simp only [Act.put, List.setIfInBounds_toArray, List.set_cons_zero, List.set_cons_succ, i64_w, i32_w]
          rfl
         refine pure_ (i := 10) (N := some 53) (v := ?_) (a' := ?_) #[true, false, true, false, true, false, true, false, true, false, true, false, false, false, false, false, false, false, false, false, false, false, false, false, false, false, false, false, false, false, false, false, false, false, false, false, false, false] rfl rfl (any_of HT_.out (by kernel_rfl)) (fun _ _ _ h => h) (Or.inl ⟨by rfl, ?_⟩) ?_ ?_
         rotate_left
         ·intro w'
          go_simp
          with_reducible rfl
         rotate_left
         ·simp only [Act.put, List.setIfInBounds_toArray, List.set_cons_zero, List.set_cons_succ, i64_w, i32_w]
          rfl
         refine pure_ (i := 11) (N := some 54) (v := ?_) (a' := ?_) #[true, false, true, false, true, false, true, false, true, false, true, true, false, false, false, false, false, false, false, false, false, false, false, false, false, false, false, false, false, false, false, false, false, false, false, false, false, false] rfl rfl (any_of HT_.out (by kernel_rfl)) (fun _ _ _ h => h) (Or.inl ⟨by rfl, ?_⟩) ?_ ?_
         rotate_left
         ·intro w'
          go_simp
          with_reducible rfl
         rotate_left
         ·simp only [Act.put, List.setIfInBounds_toArray, List.set_cons_zero, List.set_cons_succ, i64_w, i32_w]
          rfl
         refine pure_ (i := 14) (N := some 57) (v := ?_) (a' := ?_) #[true, false, true, false, true, false, true, false, true, false, true, true, false, false, true, false, false, false, false, false, false, false, false, false, false, false, false, false, false, false, false, false, false, false, false, false, false, false] rfl rfl (any_of HT_.out (by kernel_rfl)) (fun _ _ _ h => h) (Or.inl ⟨by rfl, ?_⟩) ?_ ?_
         rotate_left
         ·intro w'
          go_simp
          with_reducible rfl
         rotate_left
         ·simp only [Act.put, List.setIfInBounds_toArray, List.set_cons_zero, List.set_cons_succ, i64_w, i32_w]
          rfl
         refine pure_ (i := 16) (N := some 59) (v := ?_) (a' := ?_) #[true, false, true, false, true, false, true, false, true, false, true, true, false, false, true, false, true, false, false, false, false, false, false, false, false, false, false, false, false, false, false, false, false, false, false, false, false, false] rfl rfl (any_of HT_.out (by kernel_rfl)) (fun _ _ _ h => h) (Or.inl ⟨by rfl, ?_⟩) ?_ ?_
         rotate_left
         ·intro w'
          go_simp
          with_reducible rfl
         rotate_left
         ·simp only [Act.put, List.setIfInBounds_toArray, List.set_cons_zero, List.set_cons_succ, i64_w, i32_w]
          rfl
         refine pure_ (i := 18) (N := some 61) (v := ?_) (a' := ?_) #[true, false, true, false, true, false, true, false, true, false, true, true, false, false, true, false, true, false, true, false, false, false, false, false, false, false, false, false, false, false, false, false, false, false, false, false, false, false] rfl rfl (any_of HT_.out (by kernel_rfl)) (fun _ _ _ h => h) (Or.inl ⟨by rfl, ?_⟩) ?_ ?_
         rotate_left
         ·intro w'
          go_simp
          with_reducible rfl
         rotate_left
         ·simp only [Act.put, List.setIfInBounds_toArray, List.set_cons_zero, List.set_cons_succ, i64_w, i32_w]
          rfl
         refine pure_ (i := 20) (N := some 63) (v := ?_) (a' := ?_) #[true, false, true, false, true, false, true, false, true, false, true, true, false, false, true, false, true, false, true, false, true, false, false, false, false, false, false, false, false, false, false, false, false, false, false, false, false, false] rfl rfl (any_of HT_.out (by kernel_rfl)) (fun _ _ _ h => h) (Or.inl ⟨by rfl, ?_⟩) ?_ ?_
         rotate_left
         ·intro w'
          go_simp
          with_reducible rfl
         rotate_left
         ·simp only [Act.put, List.setIfInBounds_toArray, List.set_cons_zero, List.set_cons_succ, i64_w, i32_w]
          rfl
         refine pure_ (i := 21) (N := some 64) (v := ?_) (a' := ?_) #[true, false, true, false, true, false, true, false, true, false, true, true, false, false, true, false, true, false, true, false, true, true, false, false, false, false, false, false, false, false, false, false, false, false, false, false, false, false] rfl rfl (any_of HT_.out (by kernel_rfl)) (fun _ _ _ h => h) (Or.inl ⟨by rfl, ?_⟩) ?_ ?_
         rotate_left
         ·intro w'
          go_simp
          with_reducible rfl
         rotate_left
         ·simp only [Act.put, List.setIfInBounds_toArray, List.set_cons_zero, List.set_cons_succ, i64_w, i32_w]
          rfl
         refine pure_ (i := 24) (N := some 67) (v := ?_) (a' := ?_) #[true, false, true, false, true, false, true, false, true, false, true, true, false, false, true, false, true, false, true, false, true, true, false, false, true, false, false, false, false, false, false, false, false, false, false, false, false, false] rfl rfl (any_of HT_.out (by kernel_rfl)) (fun _ _ _ h => h) (Or.inl ⟨by rfl, ?_⟩) ?_ ?_
         rotate_left
         ·intro w'
          go_simp
          with_reducible rfl
         rotate_left
         ·simp only [Act.put, List.setIfInBounds_toArray, List.set_cons_zero, List.set_cons_succ, i64_w, i32_w]
          rfl
         refine pure_ (i := 26) (N := some 69) (v := ?_) (a' := ?_) #[true, false, true, false, true, false, true, false, true, false, true, true, false, false, true, false, true, false, true, false, true, true, false, false, true, false, true, false, false, false, false, false, false, false, false, false, false, false] rfl rfl (any_of HT_.out (by kernel_rfl)) (fun _ _ _ h => h) (Or.inl ⟨by rfl, ?_⟩) ?_ ?_
         rotate_left
         ·intro w'
          go_simp
          with_reducible rfl
         rotate_left
         ·simp only [Act.put, List.setIfInBounds_toArray, List.set_cons_zero, List.set_cons_succ, i64_w, i32_w]
          rfl
         refine pure_ (i := 28) (N := some 71) (v := ?_) (a' := ?_) #[true, false, true, false, true, false, true, false, true, false, true, true, false, false, true, false, true, false, true, false, true, true, false, false, true, false, true, false, true, false, false, false, false, false, false, false, false, false] rfl rfl (any_of HT_.out (by kernel_rfl)) (fun _ _ _ h => h) (Or.inl ⟨by rfl, ?_⟩) ?_ ?_
         rotate_left
         ·intro w'
          go_simp
          with_reducible rfl
         rotate_left
         ·simp only [Act.put, List.setIfInBounds_toArray, List.set_cons_zero, List.set_cons_succ, i64_w, i32_w]
          rfl
         refine pure_ (i := 30) (N := some 73) (v := ?_) (a' := ?_) #[true, false, true, false, true, false, true, false, true, false, true, true, false, false, true, false, true, false, true, false, true, true, false, false, true, false, true, false, true, false, true, false, false, false, false, false, false, false] rfl rfl (any_of HT_.out (by kernel_rfl)) (fun _ _ _ h => h) (Or.inl ⟨by rfl, ?_⟩) ?_ ?_
         rotate_left
         ·intro w'
          go_simp
          with_reducible rfl
         rotate_left
         ·simp only [Act.put, List.setIfInBounds_toArray, List.set_cons_zero, List.set_cons_succ, i64_w, i32_w]
          rfl
         refine pure_ (i := 31) (N := some 74) (v := ?_) (a' := ?_) #[true, false, true, false, true, false, true, false, true, false, true, true, false, false, true, false, true, false, true, false, true, true, false, false, true, false, true, false, true, false, true, true, false, false, false, false, false, false] rfl rfl (any_of HT_.out (by kernel_rfl)) (fun _ _ _ h => h) (Or.inl ⟨by rfl, ?_⟩) ?_ ?_
         rotate_left
         ·intro w'
          go_simp
          with_reducible rfl
         rotate_left
         ·simp only [Act.put, List.setIfInBounds_toArray, List.set_cons_zero, List.set_cons_succ, i64_w, i32_w]
          rfl
         refine pure_ (i := 35) (N := some 78) (v := ?_) (a' := ?_) #[true, false, true, false, true, false, true, false, true, false, true, true, false, false, true, false, true, false, true, false, true, true, false, false, true, false, true, false, true, false, true, true, false, false, false, true, false, false] rfl rfl (any_of HT_.out (by kernel_rfl)) (fun _ _ _ h => h) (Or.inl ⟨by rfl, ?_⟩) ?_ ?_
         rotate_left
         ·intro w'
          go_simp
          with_reducible rfl
         rotate_left
         ·simp only [Act.put, List.setIfInBounds_toArray, List.set_cons_zero, List.set_cons_succ, i64_w, i32_w]
          rfl
         refine take_ (i := 1) (N := some 44) (v := ?_) (a' := ?_) #[true, true, true, false, true, false, true, false, true, false, true, true, false, false, true, false, true, false, true, false, true, true, false, false, true, false, true, false, true, false, true, true, false, false, false, true, false, false] rfl rfl (take_ofW HT_.out HW_.out (by kernel_rfl)) (fun _ _ _ h => h) (Or.inl ⟨by rfl, ?_⟩) hHeld ?_ ?_
         rotate_left
         ·rintro w' ⟨s0, s1, s2, s3⟩
          go_simp
          with_reducible rfl
         rotate_left
         ·simp only [Act.put, List.setIfInBounds_toArray, List.set_cons_zero, List.set_cons_succ, i64_w, i32_w]
          rfl
         refine pure_ (i := 3) (N := some 46) (v := ?_) (a' := ?_) #[true, true, true, true, true, false, true, false, true, false, true, true, false, false, true, false, true, false, true, false, true, true, false, false, true, false, true, false, true, false, true, true, false, false, false, true, false, false] rfl rfl (any_of HT_.out (by kernel_rfl)) (fun _ _ _ h => h) (Or.inl ⟨by rfl, ?_⟩) ?_ ?_
         rotate_left
         ·intro w'
          go_simp
          with_reducible rfl
         rotate_left
         ·simp only [Act.put, List.setIfInBounds_toArray, List.set_cons_zero, List.set_cons_succ, i64_w, i32_w]
          rfl
         refine take_ (i := 5) (N := some 48) (v := ?_) (a' := ?_) #[true, true, true, true, true, true, true, false, true, false, true, true, false, false, true, false, true, false, true, false, true, true, false, false, true, false, true, false, true, false, true, true, false, false, false, true, false, false] rfl rfl (take_ofW HT_.out HW_.out (by kernel_rfl)) (fun _ _ _ h => h) (Or.inl ⟨by rfl, ?_⟩) hHeld ?_ ?_
         rotate_left
         ·rintro w' ⟨s0, s1, s2, s3⟩
          go_simp
          with_reducible rfl
         rotate_left
         ·simp only [Act.put, List.setIfInBounds_toArray, List.set_cons_zero, List.set_cons_succ, i64_w, i32_w]
          rfl
         refine pure_ (i := 7) (N := some 50) (v := ?_) (a' := ?_) #[true, true, true, true, true, true, true, true, true, false, true, true, false, false, true, false, true, false, true, false, true, true, false, false, true, false, true, false, true, false, true, true, false, false, false, true, false, false] rfl rfl (any_of HT_.out (by kernel_rfl)) (fun _ _ _ h => h) (Or.inl ⟨by rfl, ?_⟩) ?_ ?_
         rotate_left
         ·intro w'
          go_simp
          with_reducible rfl
         rotate_left
         ·simp only [Act.put, List.setIfInBounds_toArray, List.set_cons_zero, List.set_cons_succ, i64_w, i32_w]
          rfl
         refine take_ (i := 9) (N := some 52) (v := ?_) (a' := ?_) #[true, true, true, true, true, true, true, true, true, true, true, true, false, false, true, false, true, false, true, false, true, true, false, false, true, false, true, false, true, false, true, true, false, false, false, true, false, false] rfl rfl (take_ofW HT_.out HW_.out (by kernel_rfl)) (fun _ _ _ h => h) (Or.inl ⟨by rfl, ?_⟩) hHeld ?_ ?_
         rotate_left
         ·rintro w' ⟨s0, s1, s2, s3⟩
          go_simp
          with_reducible rfl
         rotate_left
         ·simp only [Act.put, List.setIfInBounds_toArray, List.set_cons_zero, List.set_cons_succ, i64_w, i32_w]
          rfl
         refine pure_ (i := 12) (N := some 55) (v := ?_) (a' := ?_) #[true, true, true, true, true, true, true, true, true, true, true, true, true, false, true, false, true, false, true, false, true, true, false, false, true, false, true, false, true, false, true, true, false, false, false, true, false, false] rfl rfl (any_of HT_.out (by kernel_rfl)) (fun _ _ _ h => h) (Or.inl ⟨by rfl, ?_⟩) ?_ ?_
         rotate_left
         ·intro w'
          go_simp
          with_reducible rfl
         rotate_left
         ·simp only [Act.put, List.setIfInBounds_toArray, List.set_cons_zero, List.set_cons_succ, i64_w, i32_w]
          rfl
         refine pure_ (i := 13) (N := some 56) (v := ?_) (a' := ?_) #[true, true, true, true, true, true, true, true, true, true, true, true, true, true, true, false, true, false, true, false, true, true, false, false, true, false, true, false, true, false, true, true, false, false, false, true, false, false] rfl rfl (any_of HT_.out (by kernel_rfl)) (fun _ _ _ h => h) (Or.inl ⟨by rfl, ?_⟩) ?_ ?_
         rotate_left
         ·intro w'
          go_simp
          with_reducible rfl
         rotate_left
         ·simp only [Act.put, List.setIfInBounds_toArray, List.set_cons_zero, List.set_cons_succ, i64_w, i32_w]
          rfl
         refine take_ (i := 15) (N := some 58) (v := ?_) (a' := ?_) #[true, true, true, true, true, true, true, true, true, true, true, true, true, true, true, true, true, false, true, false, true, true, false, false, true, false, true, false, true, false, true, true, false, false, false, true, false, false] rfl rfl (take_ofW HT_.out HW_.out (by kernel_rfl)) (fun _ _ _ h => h) (Or.inl ⟨by rfl, ?_⟩) hHeld ?_ ?_
         rotate_left
         ·rintro w' ⟨s0, s1, s2, s3⟩
          go_simp
          with_reducible rfl
         rotate_left
         ·simp only [Act.put, List.setIfInBounds_toArray, List.set_cons_zero, List.set_cons_succ, i64_w, i32_w]
          rfl
         refine pure_ (i := 17) (N := some 60) (v := ?_) (a' := ?_) #[true, true, true, true, true, true, true, true, true, true, true, true, true, true, true, true, true, true, true, false, true, true, false, false, true, false, true, false, true, false, true, true, false, false, false, true, false, false] rfl rfl (any_of HT_.out (by kernel_rfl)) (fun _ _ _ h => h) (Or.inl ⟨by rfl, ?_⟩) ?_ ?_
         rotate_left
         ·intro w'
          go_simp
          with_reducible rfl
         rotate_left
         ·simp only [Act.put, List.setIfInBounds_toArray, List.set_cons_zero, List.set_cons_succ, i64_w, i32_w]
          rfl
         refine take_ (i := 19) (N := some 62) (v := ?_) (a' := ?_) #[true, true, true, true, true, true, true, true, true, true, true, true, true, true, true, true, true, true, true, true, true, true, false, false, true, false, true, false, true, false, true, true, false, false, false, true, false, false] rfl rfl (take_ofW HT_.out HW_.out (by kernel_rfl)) (fun _ _ _ h => h) (Or.inl ⟨by rfl, ?_⟩) hHeld ?_ ?_
         rotate_left
         ·rintro w' ⟨s0, s1, s2, s3⟩
          go_simp
          with_reducible rfl
         rotate_left
         ·simp only [Act.put, List.setIfInBounds_toArray, List.set_cons_zero, List.set_cons_succ, i64_w, i32_w]
          rfl
         refine pure_ (i := 22) (N := some 65) (v := ?_) (a' := ?_) #[true, true, true, true, true, true, true, true, true, true, true, true, true, true, true, true, true, true, true, true, true, true, true, false, true, false, true, false, true, false, true, true, false, false, false, true, false, false] rfl rfl (any_of HT_.out (by kernel_rfl)) (fun _ _ _ h => h) (Or.inl ⟨by rfl, ?_⟩) ?_ ?_
         rotate_left
         ·intro w'
          go_simp
          with_reducible rfl
         rotate_left
         ·simp only [Act.put, List.setIfInBounds_toArray, List.set_cons_zero, List.set_cons_succ, i64_w, i32_w]
          rfl
         refine pure_ (i := 23) (N := some 66) (v := ?_) (a' := ?_) #[true, true, true, true, true, true, true, true, true, true, true, true, true, true, true, true, true, true, true, true, true, true, true, true, true, false, true, false, true, false, true, true, false, false, false, true, false, false] rfl rfl (any_of HT_.out (by kernel_rfl)) (fun _ _ _ h => h) (Or.inl ⟨by rfl, ?_⟩) ?_ ?_
         rotate_left
         ·intro w'
          go_simp
          with_reducible rfl
         rotate_left
         ·simp only [Act.put, List.setIfInBounds_toArray, List.set_cons_zero, List.set_cons_succ, i64_w, i32_w]
          rfl
         refine take_ (i := 25) (N := some 68) (v := ?_) (a' := ?_) #[true, true, true, true, true, true, true, true, true, true, true, true, true, true, true, true, true, true, true, true, true, true, true, true, true, true, true, false, true, false, true, true, false, false, false, true, false, false] rfl rfl (take_ofW HT_.out HW_.out (by kernel_rfl)) (fun _ _ _ h => h) (Or.inl ⟨by rfl, ?_⟩) hHeld ?_ ?_
         rotate_left
         ·rintro w' ⟨s0, s1, s2, s3⟩
          go_simp
          with_reducible rfl
         rotate_left
         ·simp only [Act.put, List.setIfInBounds_toArray, List.set_cons_zero, List.set_cons_succ, i64_w, i32_w]
          rfl
         refine pure_ (i := 27) (N := some 70) (v := ?_) (a' := ?_) #[true, true, true, true, true, true, true, true, true, true, true, true, true, true, true, true, true, true, true, true, true, true, true, true, true, true, true, true, true, false, true, true, false, false, false, true, false, false] rfl rfl (any_of HT_.out (by kernel_rfl)) (fun _ _ _ h => h) (Or.inl ⟨by rfl, ?_⟩) ?_ ?_
         rotate_left
         ·intro w'
          go_simp
          with_reducible rfl
         rotate_left
         ·simp only [Act.put, List.setIfInBounds_toArray, List.set_cons_zero, List.set_cons_succ, i64_w, i32_w]
          rfl
         refine take_ (i := 29) (N := some 72) (v := ?_) (a' := ?_) #[true, true, true, true, true, true, true, true, true, true, true, true, true, true, true, true, true, true, true, true, true, true, true, true, true, true, true, true, true, true, true, true, false, false, false, true, false, false] rfl rfl (take_ofW HT_.out HW_.out (by kernel_rfl)) (fun _ _ _ h => h) (Or.inl ⟨by rfl, ?_⟩) hHeld ?_ ?_
         rotate_left
         ·rintro w' ⟨s0, s1, s2, s3⟩
          go_simp
          with_reducible rfl
         rotate_left
         ·simp only [Act.put, List.setIfInBounds_toArray, List.set_cons_zero, List.set_cons_succ, i64_w, i32_w]
          rfl
         refine pure_ (i := 32) (N := some 75) (v := ?_) (a' := ?_) #[true, true, true, true, true, true, true, true, true, true, true, true, true, true, true, true, true, true, true, true, true, true, true, true, true, true, true, true, true, true, true, true, true, false, false, true, false, false] rfl rfl (any_of HT_.out (by kernel_rfl)) (fun _ _ _ h => h) (Or.inl ⟨by rfl, ?_⟩) ?_ ?_
         rotate_left
         ·intro w'
          go_simp
          with_reducible rfl
         rotate_left
         ·simp only [Act.put, List.setIfInBounds_toArray, List.set_cons_zero, List.set_cons_succ, i64_w, i32_w]
          rfl
         refine pure_ (i := 33) (N := some 76) (v := ?_) (a' := ?_) #[true, true, true, true, true, true, true, true, true, true, true, true, true, true, true, true, true, true, true, true, true, true, true, true, true, true, true, true, true, true, true, true, true, true, false, true, false, false] rfl rfl (any_of HT_.out (by kernel_rfl)) (fun _ _ _ h => h) (Or.inl ⟨by rfl, ?_⟩) ?_ ?_
         rotate_left
         ·intro w'
          go_simp
          with_reducible rfl
         rotate_left
         ·simp only [Act.put, List.setIfInBounds_toArray, List.set_cons_zero, List.set_cons_succ, i64_w, i32_w]
          rfl
         refine pure_ (i := 34) (N := some 77) (v := ?_) (a' := ?_) #[true, true, true, true, true, true, true, true, true, true, true, true, true, true, true, true, true, true, true, true, true, true, true, true, true, true, true, true, true, true, true, true, true, true, true, true, false, false] rfl rfl (any_of HT_.out (by kernel_rfl)) (fun _ _ _ h => h) (Or.inl ⟨by rfl, ?_⟩) ?_ ?_
         rotate_left
         ·intro w'
          go_simp
          with_reducible rfl
         rotate_left
         ·simp only [Act.put, List.setIfInBounds_toArray, List.set_cons_zero, List.set_cons_succ, i64_w, i32_w]
          rfl
         refine one_ (i := 36) (N := none) #[true, true, true, true, true, true, true, true, true, true, true, true, true, true, true, true, true, true, true, true, true, true, true, true, true, true, true, true, true, true, true, true, true, true, true, true, true, false] rfl rfl (one_of HT_.out (by kernel_rfl)) (by decide) (fun K hK => ?_)
         have hs40 : w39.cell? ⟨gb281, 0, none⟩ = some (.int .u64 0) := (blk_cell BK281.out 0).trans rfl
         have hfs40 := blk_frozen BK281.out 0
         have hns40_0 := NB280_281.out
         have hms40_0 := NB281_280.out
         have hs41 : w39.cell? ⟨gb281, 1, none⟩ = some (.int .u64 0) := (blk_cell BK281.out 1).trans rfl
         have hfs41 := blk_frozen BK281.out 1
         have hns41_0 := NB280_281.out
         have hms41_0 := NB281_280.out
         have hs42 : w39.cell? ⟨gb281, 2, none⟩ = some (.int .u64 0) := (blk_cell BK281.out 2).trans rfl
         have hfs42 := blk_frozen BK281.out 2
         have hns42_0 := NB280_281.out
         have hms42_0 := NB281_280.out
         have hs43 : w39.cell? ⟨gb281, 3, none⟩ = some (.int .u64 0) := (blk_cell BK281.out 3).trans rfl
         have hfs43 := blk_frozen BK281.out 3
         have hns43_0 := NB280_281.out
         have hms43_0 := NB281_280.out
         refine skip_ (w1 := ?_) (by rfl) rfl ?_ ?_
         rotate_left
         ·go_simp
          rfl
         refine hK.out _ _ ⟨((cell_far (p := ⟨gb281, _, none⟩) NB280_281.out _).trans (((cell_far (p := ⟨gb281, _, none⟩) NB280_281.out _).trans (((cell_far (p := ⟨gb281, _, none⟩) NB280_281.out _).trans (((cell_far (p := ⟨gb281, _, none⟩) NB280_281.out _).trans (hHeld.1)))))))), ((cell_far (p := ⟨gb281, _, none⟩) NB280_281.out _).trans (((cell_far (p := ⟨gb281, _, none⟩) NB280_281.out _).trans (((cell_far (p := ⟨gb281, _, none⟩) NB280_281.out _).trans (((cell_far (p := ⟨gb281, _, none⟩) NB280_281.out _).trans (hHeld.2.1)))))))), ((cell_far (p := ⟨gb281, _, none⟩) NB280_281.out _).trans (((cell_far (p := ⟨gb281, _, none⟩) NB280_281.out _).trans (((cell_far (p := ⟨gb281, _, none⟩) NB280_281.out _).trans (((cell_far (p := ⟨gb281, _, none⟩) NB280_281.out _).trans (hHeld.2.2.1)))))))), ((cell_far (p := ⟨gb281, _, none⟩) NB280_281.out _).trans (((cell_far (p := ⟨gb281, _, none⟩) NB280_281.out _).trans (((cell_far (p := ⟨gb281, _, none⟩) NB280_281.out _).trans (((cell_far (p := ⟨gb281, _, none⟩) NB280_281.out _).trans (hHeld.2.2.2))))))))⟩ (fun hHeld => ?_)
         clear hK K
         refine pure_ (i := 37) (N := some 5) (v := ?_) (a' := ?_) #[true, true, true, true, true, true, true, true, true, true, true, true, true, true, true, true, true, true, true, true, true, true, true, true, true, true, true, true, true, true, true, true, true, true, true, true, true, true] rfl rfl (any_of HT_.out (by kernel_rfl)) (fun _ _ _ h => h) (Or.inl ⟨by rfl, ?_⟩) ?_ ?_
         rotate_left
         ·intro w'
          go_simp
          with_reducible rfl
         rotate_left
         ·simp only [Act.put, List.setIfInBounds_toArray, List.set_cons_zero, List.set_cons_succ, i64_w, i32_w]
          rfl
         refine done_ (done_of HT_.out (by kernel_rfl)) ?_
         try go_wp2
         refine bodyPost_ret (results_ct rfl _ _ gb281 137 #[.int .u64 ji25, .int .u64 (Go.bits .or .u64 (ji27) (ji30)), .int .u64 (Go.bits .or .u64 (ji32) (ji34)), .int .u64 (Go.bits .or .u64 (ji36) (ji38))] (0, 0) _ rfl (bkT BK281) Try.underlying137 rfl (by kernel_rfl)) rfl ?_
         exact ⟨by first | rfl | (simp [errW_none, errW_some] <;> rfl) | (simp only [← hji25, ← hji27, ← hji28, ← hji30, ← hji32, ← hji34, ← hji36, ← hji38]; first | rfl | (simp [errW_none, errW_some] <;> rfl)) | (simp [*, errW_none, errW_some] <;> rfl), hbT⟩
        ·rw [if_neg c29] at H
         exact absurd H (by simp)
       ·rw [if_neg c24] at H
        exact absurd H (by simp)
      ·replace c23 := Bool.eq_false_iff.mpr c23
       subst c23
       rw [if_neg (show ¬ (false = true) by decide)] at H
       obtain ⟨ji44, hji44⟩ : ∃ j_ : Int, (wrap64 (64 - x1_1)) = j_ := ⟨_, rfl⟩
       replace H : (if 0 ≤ (ji44) then (if 0 ≤ x1_1 then (some (shr .u64 x281000_1 x1_1, Go.bits .or .u64 (shr .u64 x281001_1 x1_1) (shl .u64 x281000_1 (ji44)), Go.bits .or .u64 (shr .u64 x281002_1 x1_1) (shl .u64 x281001_1 (ji44)), Go.bits .or .u64 (shr .u64 x281003_1 x1_1) (shl .u64 x281002_1 (ji44)), ((shl .u64 x281003_1 (ji44)) != 0))) else (none)) else (none)) = some (r1, r2, r3, r4, r5) := by first | (rw [hji44] at H; exact H) | (simp only [hji44] at H ⊢; exact H)
       have hji44w : (IntKind.i64.wrap (64 - x1_1)) = ji44 := (i64_w _).trans hji44
       by_cases c45 : 0 ≤ (ji44)
       ·rw [if_pos c45] at H
        have c45b0 := eq_true c45
        have c45b1 : decide (0 ≤ (ji44)) = true := decide_eq_true c45
        clear c45
        obtain ⟨ji46, hji46⟩ : ∃ j_ : Int, (shl .u64 x281003_1 (ji44)) = j_ := ⟨_, rfl⟩
        replace H : (if 0 ≤ x1_1 then (some (shr .u64 x281000_1 x1_1, Go.bits .or .u64 (shr .u64 x281001_1 x1_1) (shl .u64 x281000_1 (ji44)), Go.bits .or .u64 (shr .u64 x281002_1 x1_1) (shl .u64 x281001_1 (ji44)), Go.bits .or .u64 (shr .u64 x281003_1 x1_1) (shl .u64 x281002_1 (ji44)), ((ji46) != 0))) else (none)) = some (r1, r2, r3, r4, r5) := by first | (rw [hji46] at H; exact H) | (simp only [hji46] at H ⊢; exact H)
        have hji46_ : (IntKind.u64.wrap (x281003_1 * 2 ^ min (ji44).toNat 64)) = ji46 := hji46
        have hji46z : (ji44) ≤ 64 → (IntKind.u64.wrap (x281003_1 * 2 ^ (ji44).toNat)) = ji46 := shl_small hji46
        by_cases c47 : 0 ≤ x1_1
        ·rw [if_pos c47] at H
         have c47b0 := eq_true c47
         have c47b1 : decide (0 ≤ x1_1) = true := decide_eq_true c47
         clear c47
         obtain ⟨ji48, hji48⟩ : ∃ j_ : Int, (shr .u64 x281000_1 x1_1) = j_ := ⟨_, rfl⟩
         replace H : (some (ji48, Go.bits .or .u64 (shr .u64 x281001_1 x1_1) (shl .u64 x281000_1 (ji44)), Go.bits .or .u64 (shr .u64 x281002_1 x1_1) (shl .u64 x281001_1 (ji44)), Go.bits .or .u64 (shr .u64 x281003_1 x1_1) (shl .u64 x281002_1 (ji44)), ((ji46) != 0))) = some (r1, r2, r3, r4, r5) := by first | (rw [hji48] at H; exact H) | (simp only [hji48] at H ⊢; exact H)
         have hji48_ : (x281000_1 / 2 ^ min x1_1.toNat 64) = ji48 := hji48
         have hji48z : x1_1 ≤ 64 → (x281000_1 / 2 ^ x1_1.toNat) = ji48 := shr_small hji48
         have c49b0 := eq_true (of_decide_eq_true (by first | (with_reducible assumption) | assumption) : 0 ≤ x1_1)
         obtain ⟨ji50, hji50⟩ : ∃ j_ : Int, (shr .u64 x281001_1 x1_1) = j_ := ⟨_, rfl⟩
         replace H : (some (ji48, Go.bits .or .u64 (ji50) (shl .u64 x281000_1 (ji44)), Go.bits .or .u64 (shr .u64 x281002_1 x1_1) (shl .u64 x281001_1 (ji44)), Go.bits .or .u64 (shr .u64 x281003_1 x1_1) (shl .u64 x281002_1 (ji44)), ((ji46) != 0))) = some (r1, r2, r3, r4, r5) := by first | (rw [hji50] at H; exact H) | (simp only [hji50] at H ⊢; exact H)
         have hji50_ : (x281001_1 / 2 ^ min x1_1.toNat 64) = ji50 := hji50
         have hji50z : x1_1 ≤ 64 → (x281001_1 / 2 ^ x1_1.toNat) = ji50 := shr_small hji50
         have c51b0 := eq_true (of_decide_eq_true (by first | (with_reducible assumption) | assumption) : 0 ≤ (ji44))
         obtain ⟨ji52, hji52⟩ : ∃ j_ : Int, (shl .u64 x281000_1 (ji44)) = j_ := ⟨_, rfl⟩
         replace H : (some (ji48, Go.bits .or .u64 (ji50) (ji52), Go.bits .or .u64 (shr .u64 x281002_1 x1_1) (shl .u64 x281001_1 (ji44)), Go.bits .or .u64 (shr .u64 x281003_1 x1_1) (shl .u64 x281002_1 (ji44)), ((ji46) != 0))) = some (r1, r2, r3, r4, r5) := by first | (rw [hji52] at H; exact H) | (simp only [hji52] at H ⊢; exact H)
         have hji52_ : (IntKind.u64.wrap (x281000_1 * 2 ^ min (ji44).toNat 64)) = ji52 := hji52
         have hji52z : (ji44) ≤ 64 → (IntKind.u64.wrap (x281000_1 * 2 ^ (ji44).toNat)) = ji52 := shl_small hji52
         have c53b0 := eq_true (of_decide_eq_true (by first | (with_reducible assumption) | assumption) : 0 ≤ x1_1)
         obtain ⟨ji54, hji54⟩ : ∃ j_ : Int, (shr .u64 x281002_1 x1_1) = j_ := ⟨_, rfl⟩
         replace H : (some (ji48, Go.bits .or .u64 (ji50) (ji52), Go.bits .or .u64 (ji54) (shl .u64 x281001_1 (ji44)), Go.bits .or .u64 (shr .u64 x281003_1 x1_1) (shl .u64 x281002_1 (ji44)), ((ji46) != 0))) = some (r1, r2, r3, r4, r5) := by first | (rw [hji54] at H; exact H) | (simp only [hji54] at H ⊢; exact H)
         have hji54_ : (x281002_1 / 2 ^ min x1_1.toNat 64) = ji54 := hji54
         have hji54z : x1_1 ≤ 64 → (x281002_1 / 2 ^ x1_1.toNat) = ji54 := shr_small hji54
         have c55b0 := eq_true (of_decide_eq_true (by first | (with_reducible assumption) | assumption) : 0 ≤ (ji44))
         obtain ⟨ji56, hji56⟩ : ∃ j_ : Int, (shl .u64 x281001_1 (ji44)) = j_ := ⟨_, rfl⟩
         replace H : (some (ji48, Go.bits .or .u64 (ji50) (ji52), Go.bits .or .u64 (ji54) (ji56), Go.bits .or .u64 (shr .u64 x281003_1 x1_1) (shl .u64 x281002_1 (ji44)), ((ji46) != 0))) = some (r1, r2, r3, r4, r5) := by first | (rw [hji56] at H; exact H) | (simp only [hji56] at H ⊢; exact H)
         have hji56_ : (IntKind.u64.wrap (x281001_1 * 2 ^ min (ji44).toNat 64)) = ji56 := hji56
         have hji56z : (ji44) ≤ 64 → (IntKind.u64.wrap (x281001_1 * 2 ^ (ji44).toNat)) = ji56 := shl_small hji56
         have c57b0 := eq_true (of_decide_eq_true (by first | (with_reducible assumption) | assumption) : 0 ≤ x1_1)
         obtain ⟨ji58, hji58⟩ : ∃ j_ : Int, (shr .u64 x281003_1 x1_1) = j_ := ⟨_, rfl⟩
         replace H : (some (ji48, Go.bits .or .u64 (ji50) (ji52), Go.bits .or .u64 (ji54) (ji56), Go.bits .or .u64 (ji58) (shl .u64 x281002_1 (ji44)), ((ji46) != 0))) = some (r1, r2, r3, r4, r5) := by first | (rw [hji58] at H; exact H) | (simp only [hji58] at H ⊢; exact H)
         have hji58_ : (x281003_1 / 2 ^ min x1_1.toNat 64) = ji58 := hji58
         have hji58z : x1_1 ≤ 64 → (x281003_1 / 2 ^ x1_1.toNat) = ji58 := shr_small hji58
         have c59b0 := eq_true (of_decide_eq_true (by first | (with_reducible assumption) | assumption) : 0 ≤ (ji44))
         obtain ⟨ji60, hji60⟩ : ∃ j_ : Int, (shl .u64 x281002_1 (ji44)) = j_ := ⟨_, rfl⟩
         replace H : (some (ji48, Go.bits .or .u64 (ji50) (ji52), Go.bits .or .u64 (ji54) (ji56), Go.bits .or .u64 (ji58) (ji60), ((ji46) != 0))) = some (r1, r2, r3, r4, r5) := by first | (rw [hji60] at H; exact H) | (simp only [hji60] at H ⊢; exact H)
         have hji60_ : (IntKind.u64.wrap (x281002_1 * 2 ^ min (ji44).toNat 64)) = ji60 := hji60
         have hji60z : (ji44) ≤ 64 → (IntKind.u64.wrap (x281002_1 * 2 ^ (ji44).toNat)) = ji60 := shl_small hji60
         simp only [Option.some.injEq, Prod.mk.injEq] at H
         obtain ⟨rfl, rfl, rfl, rfl, rfl⟩ := H
         have hnb61 := NB280_281.out
         have hnc61 := NB281_280.out
         obtain ⟨z62_0, z62_1, z62_2, z62_3, y62_0, y62_1, y62_2, y62_3⟩ := cz4 BK280
         try go_wp2
         have n0_ := Aside0.mk (blk_drew BK280.out)
         have n1_ := Aside0.mk (blk_drew BK281.out)
         have n2_ := Aside0.mk (below_drew1 HB.out)
         clear BK280
         clear BK281
         clear HB
         have BK280 := n0_
         have BK281 := n1_
         have HB := n2_
         clear n0_ n1_ n2_
         refine start_ (n := 38) (S := fun w' => w'.cell? ⟨gb280, 0, none⟩ = some (.int .u64 x281000_1) ∧ w'.cell? ⟨gb280, 1, none⟩ = some (.int .u64 x281001_1) ∧ w'.cell? ⟨gb280, 2, none⟩ = some (.int .u64 x281002_1) ∧ w'.cell? ⟨gb280, 3, none⟩ = some (.int .u64 x281003_1)) (ds := []) #[false, false, false, false, false, false, false, false, false, false, false, false, false, false, false, false, false, false, false, false, false, false, false, false, false, false, false, false, false, false, false, false, false, false, false, false, false, false] (by kernel_rfl) rfl rfl ⟨(blk_cell BK280.out 0).trans rfl, (blk_cell BK280.out 1).trans rfl, (blk_cell BK280.out 2).trans rfl, (blk_cell BK280.out 3).trans rfl⟩ (fun hHeld => ?_); refine with_tabW broad_wide_under.tab11 broad_wide_under.bits11 (fun HT_ HW_ => ?_)
         generalize wr.drew = w63 at BK280 BK281 HB hHeld ⊢
         refine pure_ (i := 0) (N := some 43) (v := ?_) (a' := ?_) #[true, false, false, false, false, false, false, false, false, false, false, false, false, false, false, false, false, false, false, false, false, false, false, false, false, false, false, false, false, false, false, false, false, false, false, false, false, false] rfl rfl (any_of HT_.out (by kernel_rfl)) (fun _ _ _ h => h) (Or.inl ⟨by rfl, ?_⟩) ?_ ?_
         rotate_left
         ·intro w'
          go_simp
          with_reducible rfl
         rotate_left
         ·simp only [Act.put, List.setIfInBounds_toArray, List.set_cons_zero, List.set_cons_succ, i64_w, i32_w]
          rfl
         refine pure_ (i := 2) (N := some 45) (v := ?_) (a' := ?_) #[true, false, true, false, false, false, false, false, false, false, false, false, false, false, false, false, false, false, false, false, false, false, false, false, false, false, false, false, false, false, false, false, false, false, false, false, false, false] rfl rfl (any_of HT_.out (by kernel_rfl)) (fun _ _ _ h => h) (Or.inl ⟨by rfl, ?_⟩) ?_ ?_
         rotate_left
         ·intro w'
          go_simp
          with_reducible rfl
         rotate_left
         ·simp only [Act.put, List.setIfInBounds_toArray, List.set_cons_zero, List.set_cons_succ, i64_w, i32_w]
          rfl
         refine pure_ (i := 4) (N := some 47) (v := ?_) (a' := ?_) #[true, false, true, false, true, false, false, false, false, false, false, false, false, false, false, false, false, false, false, false, false, false, false, false, false, false, false, false, false, false, false, false, false, false, false, false, false, false] rfl rfl (any_of HT_.out (by kernel_rfl)) (fun _ _ _ h => h) (Or.inl ⟨by rfl, ?_⟩) ?_ ?_
         rotate_left
         ·intro w'
          go_simp
          with_reducible rfl
         rotate_left
         ·simp only [Act.put, List.setIfInBounds_toArray, List.set_cons_zero, List.set_cons_succ, i64_w, i32_w]
          rfl
         refine pure_ (i := 6) (N := some 49) (v := ?_) (a' := ?_) #[true, false, true, false, true, false, true, false, false, false, false, false, false, false, false, false, false, false, false, false, false, false, false, false, false, false, false, false, false, false, false, false, false, false, false, false, false, false] rfl rfl (any_of HT_.out (by kernel_rfl)) (fun _ _ _ h => h) (Or.inl ⟨by rfl, ?_⟩) ?_ ?_
         rotate_left
         ·intro w'
          go_simp
          with_reducible rfl
         rotate_left
         ·simp only [Act.put, List.setIfInBounds_toArray, List.set_cons_zero, List.set_cons_succ, i64_w, i32_w]
          rfl
         refine pure_ (i := 8) (N := some 51) (v := ?_) (a' := ?_) #[true, false, true, false, true, false, true, false, true, false, false, false, false, false, false, false, false, false, false, false, false, false, false, false, false, false, false, false, false, false, false, false, false, false, false, false, false, false] rfl rfl (any_of HT_.out (by kernel_rfl)) (fun _ _ _ h => h) (Or.inl ⟨by rfl, ?_⟩) ?_ ?_
         rotate_left
         ·intro w'
          go_simp
          with_reducible rfl
         rotate_left
         ·simp only [Act.put, List.setIfInBounds_toArray, List.set_cons_zero, List.set_cons_succ, i64_w, i32_w]
          rfl
         refine pure_ (i := 10) (N := some 53) (v := ?_) (a' := ?_) #[true, false, true, false, true, false, true, false, true, false, true, false, false, false, false, false, false, false, false, false, false, false, false, false, false, false, false, false, false, false, false, false, false, false, false, false, false, false] rfl rfl (any_of HT_.out (by kernel_rfl)) (fun _ _ _ h => h) (Or.inl ⟨by rfl, ?_⟩) ?_ ?_
         rotate_left
         ·intro w'
          go_simp
          with_reducible rfl
         rotate_left
         ·simp only [Act.put, List.setIfInBounds_toArray, List.set_cons_zero, List.set_cons_succ, i64_w, i32_w]
          rfl
         refine pure_ (i := 11) (N := some 54) (v := ?_) (a' := ?_) #[true, false, true, false, true, false, true, false, true, false, true, true, false, false, false, false, false, false, false, false, false, false, false, false, false, false, false, false, false, false, false, false, false, false, false, false, false, false] rfl rfl (any_of HT_.out (by kernel_rfl)) (fun _ _ _ h => h) (Or.inl ⟨by rfl, ?_⟩) ?_ ?_
         rotate_left
         ·intro w'
          go_simp
          with_reducible rfl
         rotate_left
         ·simp only [Act.put, List.setIfInBounds_toArray, List.set_cons_zero, List.set_cons_succ, i64_w, i32_w]
          rfl
         refine pure_ (i := 14) (N := some 57) (v := ?_) (a' := ?_) #[true, false, true, false, true, false, true, false, true, false, true, true, false, false, true, false, false, false, false, false, false, false, false, false, false, false, false, false, false, false, false, false, false, false, false, false, false, false] rfl rfl (any_of HT_.out (by kernel_rfl)) (fun _ _ _ h => h) (Or.inl ⟨by rfl, ?_⟩) ?_ ?_
         rotate_left
         ·intro w'
          go_simp
          with_reducible rfl
         rotate_left
         ·simp only [Act.put, List.setIfInBounds_toArray, List.set_cons_zero, List.set_cons_succ, i64_w, i32_w]
          rfl
         refine pure_ (i := 16) (N := some 59) (v := ?_) (a' := ?_) #[true, false, true, false, true, false, true, false, true, false, true, true, false, false, true, false, true, false, false, false, false, false, false, false, false, false, false, false, false, false, false, false, false, false, false, false, false, false] rfl rfl (any_of HT_.out (by kernel_rfl)) (fun _ _ _ h => h) (Or.inl ⟨by rfl, ?_⟩) ?_ ?_
         rotate_left
         ·intro w'
          go_simp
          with_reducible rfl
         rotate_left
         ·simp only [Act.put, List.setIfInBounds_toArray, List.set_cons_zero, List.set_cons_succ, i64_w, i32_w]
          rfl
         refine pure_ (i := 18) (N := some 61) (v := ?_) (a' := ?_) #[true, false, true, false, true, false, true, false, true, false, true, true, false, false, true, false, true, false, true, false, false, false, false, false, false, false, false, false, false, false, false, false, false, false, false, false, false, false] rfl rfl (any_of HT_.out (by kernel_rfl)) (fun _ _ _ h => h) (Or.inl ⟨by rfl, ?_⟩) ?_ ?_
         rotate_left
         ·intro w'
          go_simp
          with_reducible rfl
         rotate_left
         ·simp only [Act.put, List.setIfInBounds_toArray, List.set_cons_zero, List.set_cons_succ, i64_w, i32_w]
          rfl
         refine pure_ (i := 20) (N := some 63) (v := ?_) (a' := ?_) #[true, false, true, false, true, false, true, false, true, false, true, true, false, false, true, false, true, false, true, false, true, false, false, false, false, false, false, false, false, false, false, false, false, false, false, false, false, false] rfl rfl (any_of HT_.out (by kernel_rfl)) (fun _ _ _ h => h) (Or.inl ⟨by rfl, ?_⟩) ?_ ?_
         rotate_left
         ·intro w'
          go_simp
          with_reducible rfl
         rotate_left
         ·simp only [Act.put, List.setIfInBounds_toArray, List.set_cons_zero, List.set_cons_succ, i64_w, i32_w]
          rfl
         refine pure_ (i := 21) (N := some 64) (v := ?_) (a' := ?_) #[true, false, true, false, true, false, true, false, true, false, true, true, false, false, true, false, true, false, true, false, true, true, false, false, false, false, false, false, false, false, false, false, false, false, false, false, false, false] rfl rfl (any_of HT_.out (by kernel_rfl)) (fun _ _ _ h => h) (Or.inl ⟨by rfl, ?_⟩) ?_ ?_
         rotate_left
         ·intro w'
          go_simp
          with_reducible rfl
         rotate_left
         ·simp only [Act.put, List.setIfInBounds_toArray, List.set_cons_zero, List.set_cons_succ, i64_w, i32_w]
          rfl
         refine pure_ (i := 24) (N := some 67) (v := ?_) (a' := ?_) #[true, false, true, false, true, false, true, false, true, false, true, true, false, false, true, false, true, false, true, false, true, true, false, false, true, false, false, false, false, false, false, false, false, false, false, false, false, false] rfl rfl (any_of HT_.out (by kernel_rfl)) (fun _ _ _ h => h) (Or.inl ⟨by rfl, ?_⟩) ?_ ?_
         rotate_left
         ·intro w'
          go_simp
          with_reducible rfl
         rotate_left
         ·simp only [Act.put, List.setIfInBounds_toArray, List.set_cons_zero, List.set_cons_succ, i64_w, i32_w]
          rfl
         refine pure_ (i := 26) (N := some 69) (v := ?_) (a' := ?_) #[true, false, true, false, true, false, true, false, true, false, true, true, false, false, true, false, true, false, true, false, true, true, false, false, true, false, true, false, false, false, false, false, false, false, false, false, false, false] rfl rfl (any_of HT_.out (by kernel_rfl)) (fun _ _ _ h => h) (Or.inl ⟨by rfl, ?_⟩) ?_ ?_
         rotate_left
         ·intro w'
          go_simp
          with_reducible rfl
         rotate_left
         ·simp only [Act.put, List.setIfInBounds_toArray, List.set_cons_zero, List.set_cons_succ, i64_w, i32_w]
          rfl
         refine pure_ (i := 28) (N := some 71) (v := ?_) (a' := ?_) #[true, false, true, false, true, false, true, false, true, false, true, true, false, false, true, false, true, false, true, false, true, true, false, false, true, false, true, false, true, false, false, false, false, false, false, false, false, false] rfl rfl (any_of HT_.out (by kernel_rfl)) (fun _ _ _ h => h) (Or.inl ⟨by rfl, ?_⟩) ?_ ?_
         rotate_left
         ·intro w'
          go_simp
          with_reducible rfl
         rotate_left
         ·simp only [Act.put, List.setIfInBounds_toArray, List.set_cons_zero, List.set_cons_succ, i64_w, i32_w]
          rfl
         refine pure_ (i := 30) (N := some 73) (v := ?_) (a' := ?_) #[true, false, true, false, true, false, true, false, true, false, true, true, false, false, true, false, true, false, true, false, true, true, false, false, true, false, true, false, true, false, true, false, false, false, false, false, false, false] rfl rfl (any_of HT_.out (by kernel_rfl)) (fun _ _ _ h => h) (Or.inl ⟨by rfl, ?_⟩) ?_ ?_
         rotate_left
         ·intro w'
          go_simp
          with_reducible rfl
         rotate_left
         ·simp only [Act.put, List.setIfInBounds_toArray, List.set_cons_zero, List.set_cons_succ, i64_w, i32_w]
          rfl
         refine pure_ (i := 31) (N := some 74) (v := ?_) (a' := ?_) #[true, false, true, false, true, false, true, false, true, false, true, true, false, false, true, false, true, false, true, false, true, true, false, false, true, false, true, false, true, false, true, true, false, false, false, false, false, false] rfl rfl (any_of HT_.out (by kernel_rfl)) (fun _ _ _ h => h) (Or.inl ⟨by rfl, ?_⟩) ?_ ?_
         rotate_left
         ·intro w'
          go_simp
          with_reducible rfl
         rotate_left
         ·simp only [Act.put, List.setIfInBounds_toArray, List.set_cons_zero, List.set_cons_succ, i64_w, i32_w]
          rfl
         refine pure_ (i := 35) (N := some 78) (v := ?_) (a' := ?_) #[true, false, true, false, true, false, true, false, true, false, true, true, false, false, true, false, true, false, true, false, true, true, false, false, true, false, true, false, true, false, true, true, false, false, false, true, false, false] rfl rfl (any_of HT_.out (by kernel_rfl)) (fun _ _ _ h => h) (Or.inl ⟨by rfl, ?_⟩) ?_ ?_
         rotate_left
         ·intro w'
          go_simp
          with_reducible rfl
         rotate_left
         ·simp only [Act.put, List.setIfInBounds_toArray, List.set_cons_zero, List.set_cons_succ, i64_w, i32_w]
          rfl
         refine take_ (i := 1) (N := some 44) (v := ?_) (a' := ?_) #[true, true, true, false, true, false, true, false, true, false, true, true, false, false, true, false, true, false, true, false, true, true, false, false, true, false, true, false, true, false, true, true, false, false, false, true, false, false] rfl rfl (take_ofW HT_.out HW_.out (by kernel_rfl)) (fun _ _ _ h => h) (Or.inl ⟨by rfl, ?_⟩) hHeld ?_ ?_
         rotate_left
         ·rintro w' ⟨s0, s1, s2, s3⟩
          go_simp
          with_reducible rfl
         rotate_left
         ·simp only [Act.put, List.setIfInBounds_toArray, List.set_cons_zero, List.set_cons_succ, i64_w, i32_w]
          rfl
         refine pure_ (i := 3) (N := some 46) (v := ?_) (a' := ?_) #[true, true, true, true, true, false, true, false, true, false, true, true, false, false, true, false, true, false, true, false, true, true, false, false, true, false, true, false, true, false, true, true, false, false, false, true, false, false] rfl rfl (any_of HT_.out (by kernel_rfl)) (fun _ _ _ h => h) (Or.inl ⟨by rfl, ?_⟩) ?_ ?_
         rotate_left
         ·intro w'
          go_simp
          with_reducible rfl
         rotate_left
         ·simp only [Act.put, List.setIfInBounds_toArray, List.set_cons_zero, List.set_cons_succ, i64_w, i32_w]
          rfl
         refine take_ (i := 5) (N := some 48) (v := ?_) (a' := ?_) #[true, true, true, true, true, true, true, false, true, false, true, true, false, false, true, false, true, false, true, false, true, true, false, false, true, false, true, false, true, false, true, true, false, false, false, true, false, false] rfl rfl (take_ofW HT_.out HW_.out (by kernel_rfl)) (fun _ _ _ h => h) (Or.inl ⟨by rfl, ?_⟩) hHeld ?_ ?_
         rotate_left
         ·rintro w' ⟨s0, s1, s2, s3⟩
          go_simp
          with_reducible rfl
         rotate_left
         ·simp only [Act.put, List.setIfInBounds_toArray, List.set_cons_zero, List.set_cons_succ, i64_w, i32_w]
          rfl
         refine pure_ (i := 7) (N := some 50) (v := ?_) (a' := ?_) #[true, true, true, true, true, true, true, true, true, false, true, true, false, false, true, false, true, false, true, false, true, true, false, false, true, false, true, false, true, false, true, true, false, false, false, true, false, false] rfl rfl (any_of HT_.out (by kernel_rfl)) (fun _ _ _ h => h) (Or.inl ⟨by rfl, ?_⟩) ?_ ?_
         rotate_left
         ·intro w'
          go_simp
          with_reducible rfl
         rotate_left
         ·simp only [Act.put, List.setIfInBounds_toArray, List.set_cons_zero, List.set_cons_succ, i64_w, i32_w]
          rfl
         refine take_ (i := 9) (N := some 52) (v := ?_) (a' := ?_) #[true, true, true, true, true, true, true, true, true, true, true, true, false, false, true, false, true, false, true, false, true, true, false, false, true, false, true, false, true, false, true, true, false, false, false, true, false, false] rfl rfl (take_ofW HT_.out HW_.out (by kernel_rfl)) (fun _ _ _ h => h) (Or.inl ⟨by rfl, ?_⟩) hHeld ?_ ?_
         rotate_left
         ·rintro w' ⟨s0, s1, s2, s3⟩
          go_simp
          with_reducible rfl
         rotate_left
         ·simp only [Act.put, List.setIfInBounds_toArray, List.set_cons_zero, List.set_cons_succ, i64_w, i32_w]
          rfl
         refine pure_ (i := 12) (N := some 55) (v := ?_) (a' := ?_) #[true, true, true, true, true, true, true, true, true, true, true, true, true, false, true, false, true, false, true, false, true, true, false, false, true, false, true, false, true, false, true, true, false, false, false, true, false, false] rfl rfl (any_of HT_.out (by kernel_rfl)) (fun _ _ _ h => h) (Or.inl ⟨by rfl, ?_⟩) ?_ ?_
         rotate_left
         ·intro w'
          go_simp
          with_reducible rfl
         rotate_left
         ·simp only [Act.put, List.setIfInBounds_toArray, List.set_cons_zero, List.set_cons_succ, i64_w, i32_w]
          rfl
         refine pure_ (i := 13) (N := some 56) (v := ?_) (a' := ?_) #[true, true, true, true, true, true, true, true, true, true, true, true, true, true, true, false, true, false, true, false, true, true, false, false, true, false, true, false, true, false, true, true, false, false, false, true, false, false] rfl rfl (any_of HT_.out (by kernel_rfl)) (fun _ _ _ h => h) (Or.inl ⟨by rfl, ?_⟩) ?_ ?_
         rotate_left
         ·intro w'
          go_simp
          with_reducible rfl
         rotate_left
         ·simp only [Act.put, List.setIfInBounds_toArray, List.set_cons_zero, List.set_cons_succ, i64_w, i32_w]
          rfl
         refine take_ (i := 15) (N := some 58) (v := ?_) (a' := ?_) #[true, true, true, true, true, true, true, true, true, true, true, true, true, true, true, true, true, false, true, false, true, true, false, false, true, false, true, false, true, false, true, true, false, false, false, true, false, false] rfl rfl (take_ofW HT_.out HW_.out (by kernel_rfl)) (fun _ _ _ h => h) (Or.inl ⟨by rfl, ?_⟩) hHeld ?_ ?_
         rotate_left
         ·rintro w' ⟨s0, s1, s2, s3⟩
          go_simp
          with_reducible rfl
         rotate_left
         ·simp only [Act.put, List.setIfInBounds_toArray, List.set_cons_zero, List.set_cons_succ, i64_w, i32_w]
          rfl
         refine pure_ (i := 17) (N := some 60) (v := ?_) (a' := ?_) #[true, true, true, true, true, true, true, true, true, true, true, true, true, true, true, true, true, true, true, false, true, true, false, false, true, false, true, false, true, false, true, true, false, false, false, true, false, false] rfl rfl (any_of HT_.out (by kernel_rfl)) (fun _ _ _ h => h) (Or.inl ⟨by rfl, ?_⟩) ?_ ?_
         rotate_left
         ·intro w'
          go_simp
          with_reducible rfl
         rotate_left
         ·simp only [Act.put, List.setIfInBounds_toArray, List.set_cons_zero, List.set_cons_succ, i64_w, i32_w]
          rfl
         refine take_ (i := 19) (N := some 62) (v := ?_) (a' := ?_) #[true, true, true, true, true, true, true, true, true, true, true, true, true, true, true, true, true, true, true, true, true, true, false, false, true, false, true, false, true, false, true, true, false, false, false, true, false, false] rfl rfl (take_ofW HT_.out HW_.out (by kernel_rfl)) (fun _ _ _ h => h) (Or.inl ⟨by rfl, ?_⟩) hHeld ?_ ?_
         rotate_left
         ·rintro w' ⟨s0, s1, s2, s3⟩
          go_simp
          with_reducible rfl
         rotate_left
         ·simp only [Act.put, List.setIfInBounds_toArray, List.set_cons_zero, List.set_cons_succ, i64_w, i32_w]
          rfl
         refine pure_ (i := 22) (N := some 65) (v := ?_) (a' := ?_) #[true, true, true, true, true, true, true, true, true, true, true, true, true, true, true, true, true, true, true, true, true, true, true, false, true, false, true, false, true, false, true, true, false, false, false, true, false, false] rfl rfl (any_of HT_.out (by kernel_rfl)) (fun _ _ _ h => h) (Or.inl ⟨by rfl, ?_⟩) ?_ ?_
         rotate_left
         ·intro w'
          go_simp
          with_reducible rfl
         rotate_left
         ·simp only [Act.put, List.setIfInBounds_toArray, List.set_cons_zero, List.set_cons_succ, i64_w, i32_w]
          rfl
         refine pure_ (i := 23) (N := some 66) (v := ?_) (a' := ?_) #[true, true, true, true, true, true, true, true, true, true, true, true, true, true, true, true, true, true, true, true, true, true, true, true, true, false, true, false, true, false, true, true, false, false, false, true, false, false] rfl rfl (any_of HT_.out (by kernel_rfl)) (fun _ _ _ h => h) (Or.inl ⟨by rfl, ?_⟩) ?_ ?_
         rotate_left
         ·intro w'
          go_simp
          with_reducible rfl
         rotate_left
         ·simp only [Act.put, List.setIfInBounds_toArray, List.set_cons_zero, List.set_cons_succ, i64_w, i32_w]
          rfl
         refine take_ (i := 25) (N := some 68) (v := ?_) (a' := ?_) #[true, true, true, true, true, true, true, true, true, true, true, true, true, true, true, true, true, true, true, true, true, true, true, true, true, true, true, false, true, false, true, true, false, false, false, true, false, false] rfl rfl (take_ofW HT_.out HW_.out (by kernel_rfl)) (fun _ _ _ h => h) (Or.inl ⟨by rfl, ?_⟩) hHeld ?_ ?_
         rotate_left
         ·rintro w' ⟨s0, s1, s2, s3⟩
          go_simp
          with_reducible rfl
         rotate_left
         ·simp only [Act.put, List.setIfInBounds_toArray, List.set_cons_zero, List.set_cons_succ, i64_w, i32_w]
          rfl
         refine pure_ (i := 27) (N := some 70) (v := ?_) (a' := ?_) #[true, true, true, true, true, true, true, true, true, true, true, true, true, true, true, true, true, true, true, true, true, true, true, true, true, true, true, true, true, false, true, true, false, false, false, true, false, false] rfl rfl (any_of HT_.out (by kernel_rfl)) (fun _ _ _ h => h) (Or.inl ⟨by rfl, ?_⟩) ?_ ?_
         rotate_left
         ·intro w'
          go_simp
          with_reducible rfl
         rotate_left
         ·simp only [Act.put, List.setIfInBounds_toArray, List.set_cons_zero, List.set_cons_succ, i64_w, i32_w]
          rfl
         refine take_ (i := 29) (N := some 72) (v := ?_) (a' := ?_) #[true, true, true, true, true, true, true, true, true, true, true, true, true, true, true, true, true, true, true, true, true, true, true, true, true, true, true, true, true, true, true, true, false, false, false, true, false, false] rfl rfl (take_ofW HT_.out HW_.out (by kernel_rfl)) (fun _ _ _ h => h) (Or.inl ⟨by rfl, ?_⟩) hHeld ?_ ?_
         rotate_left
         ·rintro w' ⟨s0, s1, s2, s3⟩
          go_simp
          with_reducible rfl
         rotate_left
         ·simp only [Act.put, List.setIfInBounds_toArray, List.set_cons_zero, List.set_cons_succ, i64_w, i32_w]
          rfl
         refine pure_ (i := 32) (N := some 75) (v := ?_) (a' := ?_) #[true, true, true, true, true, true, true, true, true, true, true, true, true, true, true, true, true, true, true, true, true, true, true, true, true, true, true, true, true, true, true, true, true, false, false, true, false, false] rfl rfl (any_of HT_.out (by kernel_rfl)) (fun _ _ _ h => h) (Or.inl ⟨by rfl, ?_⟩) ?_ ?_
         rotate_left
         ·intro w'
          go_simp
          with_reducible rfl
         rotate_left
         ·simp only [Act.put, List.setIfInBounds_toArray, List.set_cons_zero, List.set_cons_succ, i64_w, i32_w]
          rfl
         refine pure_ (i := 33) (N := some 76) (v := ?_) (a' := ?_) #[true, true, true, true, true, true, true, true, true, true, true, true, true, true, true, true, true, true, true, true, true, true, true, true, true, true, true, true, true, true, true, true, true, true, false, true, false, false] rfl rfl (any_of HT_.out (by kernel_rfl)) (fun _ _ _ h => h) (Or.inl ⟨by rfl, ?_⟩) ?_ ?_
         rotate_left
         ·intro w'
          go_simp
          with_reducible rfl
         rotate_left
         ·simp only [Act.put, List.setIfInBounds_toArray, List.set_cons_zero, List.set_cons_succ, i64_w, i32_w]
          rfl
         refine pure_ (i := 34) (N := some 77) (v := ?_) (a' := ?_) #[true, true, true, true, true, true, true, true, true, true, true, true, true, true, true, true, true, true, true, true, true, true, true, true, true, true, true, true, true, true, true, true, true, true, true, true, false, false] rfl rfl (any_of HT_.out (by kernel_rfl)) (fun _ _ _ h => h) (Or.inl ⟨by rfl, ?_⟩) ?_ ?_
         rotate_left
         ·intro w'
          go_simp
          with_reducible rfl
         rotate_left
         ·simp only [Act.put, List.setIfInBounds_toArray, List.set_cons_zero, List.set_cons_succ, i64_w, i32_w]
          rfl
         refine one_ (i := 36) (N := none) #[true, true, true, true, true, true, true, true, true, true, true, true, true, true, true, true, true, true, true, true, true, true, true, true, true, true, true, true, true, true, true, true, true, true, true, true, true, false] rfl rfl (one_of HT_.out (by kernel_rfl)) (by decide) (fun K hK => ?_)
         have hs64 : w63.cell? ⟨gb281, 0, none⟩ = some (.int .u64 0) := (blk_cell BK281.out 0).trans rfl
         have hfs64 := blk_frozen BK281.out 0
         have hns64_0 := NB280_281.out
         have hms64_0 := NB281_280.out
         have hs65 : w63.cell? ⟨gb281, 1, none⟩ = some (.int .u64 0) := (blk_cell BK281.out 1).trans rfl
         have hfs65 := blk_frozen BK281.out 1
         have hns65_0 := NB280_281.out
         have hms65_0 := NB281_280.out
         have hs66 : w63.cell? ⟨gb281, 2, none⟩ = some (.int .u64 0) := (blk_cell BK281.out 2).trans rfl
         have hfs66 := blk_frozen BK281.out 2
         have hns66_0 := NB280_281.out
         have hms66_0 := NB281_280.out
         have hs67 : w63.cell? ⟨gb281, 3, none⟩ = some (.int .u64 0) := (blk_cell BK281.out 3).trans rfl
         have hfs67 := blk_frozen BK281.out 3
         have hns67_0 := NB280_281.out
         have hms67_0 := NB281_280.out
         refine skip_ (w1 := ?_) (by rfl) rfl ?_ ?_
         rotate_left
         ·go_simp
          rfl
         refine hK.out _ _ ⟨((cell_far (p := ⟨gb281, _, none⟩) NB280_281.out _).trans (((cell_far (p := ⟨gb281, _, none⟩) NB280_281.out _).trans (((cell_far (p := ⟨gb281, _, none⟩) NB280_281.out _).trans (((cell_far (p := ⟨gb281, _, none⟩) NB280_281.out _).trans (hHeld.1)))))))), ((cell_far (p := ⟨gb281, _, none⟩) NB280_281.out _).trans (((cell_far (p := ⟨gb281, _, none⟩) NB280_281.out _).trans (((cell_far (p := ⟨gb281, _, none⟩) NB280_281.out _).trans (((cell_far (p := ⟨gb281, _, none⟩) NB280_281.out _).trans (hHeld.2.1)))))))), ((cell_far (p := ⟨gb281, _, none⟩) NB280_281.out _).trans (((cell_far (p := ⟨gb281, _, none⟩) NB280_281.out _).trans (((cell_far (p := ⟨gb281, _, none⟩) NB280_281.out _).trans (((cell_far (p := ⟨gb281, _, none⟩) NB280_281.out _).trans (hHeld.2.2.1)))))))), ((cell_far (p := ⟨gb281, _, none⟩) NB280_281.out _).trans (((cell_far (p := ⟨gb281, _, none⟩) NB280_281.out _).trans (((cell_far (p := ⟨gb281, _, none⟩) NB280_281.out _).trans (((cell_far (p := ⟨gb281, _, none⟩) NB280_281.out _).trans (hHeld.2.2.2))))))))⟩ (fun hHeld => ?_)
         clear hK K
         refine pure_ (i := 37) (N := some 5) (v := ?_) (a' := ?_) #[true, true, true, true, true, true, true, true, true, true, true, true, true, true, true, true, true, true, true, true, true, true, true, true, true, true, true, true, true, true, true, true, true, true, true, true, true, true] rfl rfl (any_of HT_.out (by kernel_rfl)) (fun _ _ _ h => h) (Or.inl ⟨by rfl, ?_⟩) ?_ ?_
         rotate_left
         ·intro w'
          go_simp
          with_reducible rfl
         rotate_left
         ·simp only [Act.put, List.setIfInBounds_toArray, List.set_cons_zero, List.set_cons_succ, i64_w, i32_w]
          rfl
         refine done_ (done_of HT_.out (by kernel_rfl)) ?_
         try go_wp2
         refine bodyPost_ret (results_ct rfl _ _ gb281 137 #[.int .u64 ji48, .int .u64 (Go.bits .or .u64 (ji50) (ji52)), .int .u64 (Go.bits .or .u64 (ji54) (ji56)), .int .u64 (Go.bits .or .u64 (ji58) (ji60))] (0, 0) _ rfl (bkT BK281) Try.underlying137 rfl (by kernel_rfl)) rfl ?_
         exact ⟨by first | rfl | (simp [errW_none, errW_some] <;> rfl) | (simp only [← hji44, ← hji46, ← hji48, ← hji50, ← hji52, ← hji54, ← hji56, ← hji58, ← hji60]; first | rfl | (simp [errW_none, errW_some] <;> rfl)) | (simp [*, errW_none, errW_some] <;> rfl), hbT⟩
        ·rw [if_neg c47] at H
         exact absurd H (by simp)
       ·rw [if_neg c45] at H
        exact absurd H (by simp)
end Go.Proofs.Ytnlbfomlfhigcaa.Q
