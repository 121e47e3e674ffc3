/- Walks and plain laws that the claim stands on: each theorem named calls says that a call of a function returns what its f computes; the others are plain laws of these f, and the words that the walks use. -/
import Derived.Test.YtnlbfomlfhigcaaFuseExactsV2
import Derived.Test.YtnlbfomlfhigcaaFuseExactsV14
import Derived.Test.YtnlbfomlfhigcaaFuseExactsV15
namespace Go.Proofs.Ytnlbfomlfhigcaa.Q
open Go.RowKit Go.Proofs.YtnlbfomlfhigcaaW.PrintWords Go.Proofs.YtnlbfomlfhigcaaW.PrintLast Go.Proofs.YtnlbfomlfhigcaaW.PrintMore
attribute [local go_sem] max2_int min2_int max_two min_two max_three min_three max_four min_four
set_option linter.unusedVariables false
set_option linter.unusedSimpArgs false
def vernierref04_Shr.l0 : Nat → List Int → Int → List Int → Int → Option (List Int)
 | 0, _, _, _, _ => none
 | k + 1, x5, x6, x7, x8 => if x8 < (x5.length : Int) then (if 0 ≤ x8 then (if x6 = 0 then (none) else ((vernierref04_digit.f x5 (wrap64 (x8 + 1))).bind fun t786 => (if x8 < (x7.length : Int) then (vernierref04_Shr.l0 k x5 x6 (x7.set (x8 : Int).toNat (wrap64 ((wrap64 (Int.tdiv (rd x5 x8) x6)) + (wrap64 ((Int.tmod t786 x6) * (wrap64 ((16777216 : Int) / x6))))))) (wrap64 (x8 + 1))) else (none)))) else (none)) else ((vernierref04_Cut.f k x7).bind fun t788 => (some t788))
def vernierref04_Shr.f (k : Nat) (l0 : List Int) (a1 : Int) : Option (List Int) := if (wrap64 (Int.tdiv a1 24)) ≥ (l0.length : Int) then (some ([] : List Int)) else (if 0 ≤ (wrap64 (Int.tdiv a1 24)) then (if (wrap64 (Int.tdiv a1 24)) ≤ (l0.length : Int) then ((vernierref04_two.f k (Int.tmod a1 24)).bind fun t781 => (if 0 ≤ ((l0.drop ((wrap64 (Int.tdiv a1 24)) : Int).toNat).length : Int) then (if (((l0.drop ((wrap64 (Int.tdiv a1 24)) : Int).toNat).length : Int) : Int).toNat ≤ 35184372088832 then (vernierref04_Shr.l0 k (l0.drop ((wrap64 (Int.tdiv a1 24)) : Int).toNat) t781 (List.replicate (((l0.drop ((wrap64 (Int.tdiv a1 24)) : Int).toNat).length : Int) : Int).toNat 0) 0) else (none)) else (none))) else (none)) else (none))
def vernierref04_Shr.T9 : Bool × List (List Nat × List Nat) := (true, [([], []), ([], []), ([], []), ([], []), ([2, 3], [2, 3]), ([4], [4]), ([], []), ([5, 6], [5, 6]), ([], []), ([], []), ([9], [9]), ([8, 10], [8, 10]), ([], []), ([11, 12], [11, 12]), ([], []), ([14], [14]), ([13, 15], [13, 15]), ([7, 16], [7, 16]), ([0, 1, 0, 1, 2, 3, 4, 5, 6, 7, 8, 9, 10, 11, 12, 13, 14, 15, 16, 17], [0, 1]), ([18, 17, 11, 0, 1, 2, 3, 4, 5, 6, 7, 8, 9, 10, 11, 12, 13, 14, 15, 16, 17], [17, 18])])
def vernierref04_Shr.B9 : List Nat := [0, 0, 0, 0, 12, 28, 0, 124, 0, 0, 512, 1792, 0, 7936, 0, 16384, 65280, 131068, 262143, 524287]
theorem vernierref04_Shr.tab9 : rtab .any (opsOf Try.f146 9) = vernierref04_Shr.T9 := by kernel_rfl
theorem vernierref04_Shr.bits9 : waitsOk vernierref04_Shr.T9.2 vernierref04_Shr.B9 = true := by kernel_rfl
set_option maxHeartbeats 8000000 in
set_option maxRecDepth 100000 in
theorem vernierref04_Shr.calls (k : Nat) (A0 : Option Addr) (c0 : Nat) (l0 : List Int) (a1 : Int) (r : List Int) (w : World) (hr0 : Kd.C (Kd.int .i64) w A0 l0.length l0) (hc0 : l0.length ≤ c0) (h : vernierref04_Shr.f k l0 a1 = some r) :
  Calls Try.prog 146 #[.slice A0 l0.length c0, .int .i64 a1] w fun e w' => ∃ v0_ : Value, e = .returned (v0_) ∧ Kd.R (Kd.int .i64) 3 w' w.heap.size (fun _ => True) v0_ r ∧ Below w.heap.size w w' := by
 have HR0 := Aside0.mk hr0
 have HC0 := Aside0.mk hc0
 clear hr0 hc0
 have HB := Aside0.mk (Below.refl w.heap.size w)
 have H := h
 clear h
 unfold vernierref04_Shr.f at H
 by_cases c3 : (wrap64 (Int.tdiv a1 24)) ≥ (l0.length : Int)
 ·rw [if_pos c3] at H
  have c3b0 : decide ((l0.length : Int) ≤ (wrap64 (Int.tdiv a1 24))) = true := decide_eq_true c3
  clear c3
  obtain rfl := Option.some.inj H
  go_enter Try.func146, Try.ntmps146
  go_wp2
  go_ret
  exact ⟨_, reT, by first | exact Kd.R_nil _ _ _ _ _ | exact Kd.N_nil _ _ _ _ _ | exact Kd.V_nil _ _ _ _ _ | exact Kd.Q_nil _ _ _ _ _ | exact Kd.S_nil _ _ _ _ _, hbT⟩
 ·rw [if_neg c3] at H
  have c3b0 : decide ((l0.length : Int) ≤ (wrap64 (Int.tdiv a1 24))) = false := decide_eq_false c3
  clear c3
  obtain ⟨ji4, hji4⟩ : ∃ j_ : Int, (wrap64 (Int.tdiv a1 24)) = j_ := ⟨_, rfl⟩
  replace H : (if 0 ≤ (ji4) then (if (ji4) ≤ (l0.length : Int) then ((vernierref04_two.f k (Int.tmod a1 24)).bind fun t781 => (if 0 ≤ ((l0.drop ((ji4) : Int).toNat).length : Int) then (if (((l0.drop ((ji4) : Int).toNat).length : Int) : Int).toNat ≤ 35184372088832 then (vernierref04_Shr.l0 k (l0.drop ((ji4) : Int).toNat) t781 (List.replicate (((l0.drop ((ji4) : Int).toNat).length : Int) : Int).toNat 0) 0) else (none)) else (none))) else (none)) else (none)) = some r := by first | (rw [hji4] at H; exact H) | (simp only [hji4] at H ⊢; exact H)
  (try rw [hji4] at c3b0)
  have hji4w : (IntKind.i64.wrap (Int.tdiv a1 24)) = ji4 := (i64_w _).trans hji4
  by_cases c5 : 0 ≤ (ji4)
  ·rw [if_pos c5] at H
   have c5b0 := eq_true c5
   have c5b1 : decide (0 ≤ (ji4)) = true := decide_eq_true c5
   clear c5
   by_cases c6 : (ji4) ≤ (l0.length : Int)
   ·rw [if_pos c6] at H
    have c6b0 := eq_true c6
    have c6b1 : decide ((ji4) ≤ (l0.length : Int)) = true := decide_eq_true c6
    clear c6
    replace H := Option.bind_eq_some_iff.mp H
    obtain ⟨t781, A70, H⟩ := H
    try dsimp only at H
    have A7 := Aside0.mk A70
    clear A70
    by_cases c8 : 0 ≤ ((l0.drop ((ji4) : Int).toNat).length : Int)
    ·rw [if_pos c8] at H
     have c8b0 := eq_true c8
     have c8b1 : decide (0 ≤ ((l0.drop ((ji4) : Int).toNat).length : Int)) = true := decide_eq_true c8
     clear c8
     by_cases c9 : (((l0.drop ((ji4) : Int).toNat).length : Int) : Int).toNat ≤ 35184372088832
     ·rw [if_pos c9] at H
      have c9b0 := eq_true c9
      have c9b1 : decide ((((l0.drop ((ji4) : Int).toNat).length : Int) : Int).toNat ≤ 35184372088832) = true := decide_eq_true c9
      clear c9
      obtain ⟨y782, hy782⟩ : ∃ y_ : List Int, y_ = (List.replicate (((l0.drop ((ji4) : Int).toNat).length : Int) : Int).toNat 0) := ⟨_, rfl⟩
      replace H : (vernierref04_Shr.l0 k (l0.drop ((ji4) : Int).toNat) t781 y782 0) = some r := by first | (rw [hy782]; with_reducible exact H) | (have H2_ := (Option.bind_some _ _).symm.trans H; rw [hy782]; with_reducible exact H2_) | (have H2_ := (Option.bind_some _ _).symm.trans H; with_reducible exact H2_) | with_reducible exact H | (rw [hy782]; exact H) | exact H
      have Ny782 := Aside0.mk hy782
      clear hy782
      have H' := Aside0.mk H
      clear H
      obtain ⟨i010, hi010, _, hsz10, _⟩ := info_parts info3
      obtain ⟨A10, hcut10, hA10, hC10⟩ := print_drop_of (P := Try.prog) (Value.int .i64) 0 158 3 .i64 Try.underlying158 hi010 hsz10 A0 c0 l0 (ji4) (of_decide_eq_true (by first | (with_reducible assumption) | assumption)) (of_decide_eq_true (by first | (with_reducible assumption) | assumption)) HC0.out
      have HR780 := Aside0.mk (Kd.C_of_reads (h1 := fun _ => rfl) (hA10 _ (Kd.reads_of_C HR0.out)))
      have HC780 := Aside0.mk hC10
      clear hA10 hC10 hi010 hsz10
      generalize (l0.drop ((ji4) : Int).toNat) = l5 at hcut10 HR780 HC780 H' Ny782 c8b0 c8b1 c9b0 c9b1
      go_enter Try.func146, Try.ntmps146
      go_wp2_with (first | ((with_reducible refine gate_callee (f := 142) rfl ?_); refine goesL_ (some 20) rfl rfl Try.func142 (by kernel_rfl) rfl #[.int .i64 (Int.tmod a1 24)] rfl (by (try simp only [List.map_toArray, List.map_cons, List.map_nil]); first | done | rfl | (simp only [List.length_drop, List.length_take]; rfl)) ?_; (with_reducible refine (vernierref04_two.calls k (Int.tmod a1 24) t781 _ A7.out).mono ?_); rintro e w' ⟨rfl, ⟨nd, rfl⟩⟩; refine ⟨_, rfl, ?_⟩) | ((with_reducible refine gate_dst (N := 23) rfl ?_); refine Kd.R_make (Kd.int .i64) _ 3 rfl (N := 23) rfl 158 _ _ rfl (l5.length : Int) rfl rfl Try.underlying158 (.int .i64 0) 8 info3 rfl (by decide) (by omega) 0 (ok := fun _ => True) (okp := fun _ => True) rfl (fun _ hk => hk) trivial (of_decide_eq_true (by first | (with_reducible assumption) | assumption)) (Nat.le_trans (Nat.mul_le_mul_right _ (of_decide_eq_true (by first | (with_reducible assumption) | assumption) : (l5.length : Int).toNat ≤ 35184372088832)) (by omega)) (Below.refl _ _) (Nat.le_refl _) ?_; intro v783 w11 ho12 hb hg_ hnew_; clear hg_ hnew_; (first | rw [← Ny782.out] at ho12 | (simp only [Int.reduceToNat] at ho12; rw [← Ny782.out] at ho12)); have HO784 := Aside0.mk (Kd.R_lower ho12 (below_size hbT)); replace HB := hbS hb; clear hb ho12))
      go_loopg [8] k (fun kq v8 w' => ∃ (x7_1 : List Int) (x8_1 : Int), v8 = .int .i64 x8_1 ∧ Aside0 (vernierref04_Shr.l0 kq l5 t781 x7_1 x8_1 = some r) ∧ Aside0 (kq ≤ k) ∧ Aside0 (Kd.R (Kd.int .i64) 3 w' w.heap.size (fun _ => True) v783 x7_1) ∧ Aside0 (Below w.heap.size w w'))
      case atStart => exact ⟨(y782), (0), okT, H', ⟨Nat.le_refl _⟩, ⟨by (with_reducible repeat (first | apply Kd.R_alloc | apply Kd.R_drewN | apply Kd.R_drew)); exact HO784.out⟩, ⟨hbT⟩⟩
      case round =>
       clear H'
       try clear c3
       try clear c3b0
       try clear c5
       try clear c5b0
       try clear c5b1
       try clear c6
       try clear c6b0
       try clear c6b1
       try clear c8
       try clear c8b0
       try clear c8b1
       try clear c9
       try clear c9b0
       try clear c9b1
       obtain ⟨x7_1, x8_1, rfl, HA, HK1, HO_7, HB⟩ := hrel
       cases gk with
       | zero => exact absurd HA.out (by simp [vernierref04_Shr.l0])
       | succ k1 =>
        have H := HA.out
        clear HA
        simp only [vernierref04_Shr.l0] at H
        by_cases c13 : x8_1 < (l5.length : Int)
        ·rw [if_pos c13] at H
         have c13b0 : decide (x8_1 < (l5.length : Int)) = true := decide_eq_true c13
         clear c13
         by_cases c14 : 0 ≤ x8_1
         ·rw [if_pos c14] at H
          have c14b0 : decide (0 ≤ x8_1) = true := decide_eq_true c14
          clear c14
          by_cases c15 : t781 = 0
          ·rw [if_pos c15] at H
           exact absurd H (by simp)
          ·rw [if_neg c15] at H
           obtain ⟨c15b0, c15b1⟩ := eqN c15
           replace H := Option.bind_eq_some_iff.mp H
           obtain ⟨t786, A160, H⟩ := H
           try dsimp only at H
           have A16 := Aside0.mk A160
           clear A160
           by_cases c17 : x8_1 < (x7_1.length : Int)
           ·rw [if_pos c17] at H
            have c17b0 : decide (x8_1 < (x7_1.length : Int)) = true := decide_eq_true c17
            clear c17
            obtain ⟨y787, hy787⟩ : ∃ y_ : List Int, y_ = (x7_1.set (x8_1 : Int).toNat (wrap64 ((wrap64 (Int.tdiv (rd l5 x8_1) t781)) + (wrap64 ((Int.tmod t786 t781) * (wrap64 ((16777216 : Int) / t781))))))) := ⟨_, rfl⟩
            replace H : (vernierref04_Shr.l0 k1 l5 t781 y787 (wrap64 (x8_1 + 1))) = some r := by first | (rw [hy787]; with_reducible exact H) | (have H2_ := (Option.bind_some _ _).symm.trans H; rw [hy787]; with_reducible exact H2_) | (have H2_ := (Option.bind_some _ _).symm.trans H; with_reducible exact H2_) | with_reducible exact H | (rw [hy787]; exact H) | exact H
            have Ny787 := Aside0.mk hy787
            clear hy787
            have H' := Aside0.mk H
            clear H
            try go_wp2
            have n0_ := Aside0.mk (Kd.R_drew HO_7.out)
            have n1_ := Aside0.mk (below_drew1 HB.out)
            clear HO_7
            clear HB
            have HO_7 := n0_
            have HB := n1_
            clear n0_ n1_
            have p785 : 0 ≤ (x8_1 : Int) := of_decide_eq_true (by first | (with_reducible assumption) | assumption)
            have q785 : x8_1 < (l5.length : Int) := of_decide_eq_true (by first | (with_reducible assumption) | assumption)
            obtain ⟨ad785, e785, hx785_0⟩ := Kd.at_int HR780.out x8_1 p785 q785
            have hw785_0 := hx785_0
            cases e785
            replace hx785_0 := (HB.out.cell (World.block_lt_of_cell? w _ hx785_0)).trans hx785_0
            replace p785 := eq_true p785
            replace q785 := eq_true q785
            refine start_ (n := 20) (S := fun w' => w'.cell? (ad785.add (x8_1).toNat) = some (.int .i64 (rd l5 x8_1))) (ds := [19]) #[false, false, false, false, false, false, false, false, false, false, false, false, false, false, false, false, false, false, false, false] (by kernel_rfl) rfl rfl (((HB.out.cell (World.block_lt_of_cell? w _ hw785_0)).trans hw785_0)) (fun hHeld => ?_); refine with_tabW vernierref04_Shr.tab9 vernierref04_Shr.bits9 (fun HT_ HW_ => ?_)
            generalize wr.drew = w19 at HO_7 HB hx785_0 hHeld ⊢
            refine pure_ (i := 0) (N := some 30) (v := ?_) (a' := ?_) #[true, false, false, false, false, false, false, false, false, false, false, false, false, false, false, false, false, false, false, false] rfl rfl (any_of HT_.out (by kernel_rfl)) (fun _ _ _ h => h) (Or.inl ⟨by rfl, ?_⟩) ?_ ?_
            rotate_left
            ·intro w'
             go_simp
             with_reducible rfl
            rotate_left
            ·simp only [Act.put, List.setIfInBounds_toArray, List.set_cons_zero, List.set_cons_succ, i64_w, i32_w]
             rfl
            refine pure_ (i := 1) (N := some 31) (v := ?_) (a' := ?_) #[true, true, false, false, false, false, false, false, false, false, false, false, false, false, false, false, false, false, false, false] rfl rfl (any_of HT_.out (by kernel_rfl)) (fun _ _ _ h => h) (Or.inl ⟨by rfl, ?_⟩) ?_ ?_
            rotate_left
            ·intro w'
             go_simp
             with_reducible rfl
            rotate_left
            ·simp only [Act.put, List.setIfInBounds_toArray, List.set_cons_zero, List.set_cons_succ, i64_w, i32_w]
             rfl
            refine pure_ (i := 2) (N := some 32) (v := ?_) (a' := ?_) #[true, true, true, false, false, false, false, false, false, false, false, false, false, false, false, false, false, false, false, false] rfl rfl (any_of HT_.out (by kernel_rfl)) (fun _ _ _ h => h) (Or.inl ⟨by rfl, ?_⟩) ?_ ?_
            rotate_left
            ·intro w'
             go_simp
             with_reducible rfl
            rotate_left
            ·simp only [Act.put, List.setIfInBounds_toArray, List.set_cons_zero, List.set_cons_succ, i64_w, i32_w]
             rfl
            refine pure_ (i := 3) (N := some 33) (v := ?_) (a' := ?_) #[true, true, true, true, false, false, false, false, false, false, false, false, false, false, false, false, false, false, false, false] rfl rfl (any_of HT_.out (by kernel_rfl)) (fun _ _ _ h => h) (Or.inl ⟨by rfl, ?_⟩) ?_ ?_
            rotate_left
            ·intro w'
             go_simp
             with_reducible rfl
            rotate_left
            ·simp only [Act.put, List.setIfInBounds_toArray, List.set_cons_zero, List.set_cons_succ, i64_w, i32_w]
             rfl
            refine pure_ (i := 4) (N := some 34) (v := ?_) (a' := ?_) #[true, true, true, true, true, false, false, false, false, false, false, false, false, false, false, false, false, false, false, false] rfl rfl (any_of HT_.out (by kernel_rfl)) (fun _ _ _ h => h) (Or.inl ⟨by rfl, ?_⟩) ?_ ?_
            rotate_left
            ·intro w'
             go_simp
             with_reducible rfl
            rotate_left
            ·simp only [Act.put, List.setIfInBounds_toArray, List.set_cons_zero, List.set_cons_succ, i64_w, i32_w]
             rfl
            refine pure_ (i := 6) (N := some 36) (v := ?_) (a' := ?_) #[true, true, true, true, true, false, true, false, false, false, false, false, false, false, false, false, false, false, false, false] rfl rfl (any_of HT_.out (by kernel_rfl)) (fun _ _ _ h => h) (Or.inl ⟨by rfl, ?_⟩) ?_ ?_
            rotate_left
            ·intro w'
             go_simp
             with_reducible rfl
            rotate_left
            ·simp only [Act.put, List.setIfInBounds_toArray, List.set_cons_zero, List.set_cons_succ, i64_w, i32_w]
             rfl
            refine pure_ (i := 8) (N := some 38) (v := ?_) (a' := ?_) #[true, true, true, true, true, false, true, false, true, false, false, false, false, false, false, false, false, false, false, false] rfl rfl (any_of HT_.out (by kernel_rfl)) (fun _ _ _ h => h) (Or.inl ⟨by rfl, ?_⟩) ?_ ?_
            rotate_left
            ·intro w'
             go_simp
             with_reducible rfl
            rotate_left
            ·simp only [Act.put, List.setIfInBounds_toArray, List.set_cons_zero, List.set_cons_succ, i64_w, i32_w]
             rfl
            refine pure_ (i := 9) (N := some 39) (v := ?_) (a' := ?_) #[true, true, true, true, true, false, true, false, true, true, false, false, false, false, false, false, false, false, false, false] rfl rfl (any_of HT_.out (by kernel_rfl)) (fun _ _ _ h => h) (Or.inl ⟨by rfl, ?_⟩) ?_ ?_
            rotate_left
            ·intro w'
             go_simp
             with_reducible rfl
            rotate_left
            ·simp only [Act.put, List.setIfInBounds_toArray, List.set_cons_zero, List.set_cons_succ, i64_w, i32_w]
             rfl
            refine pure_ (i := 10) (N := some 40) (v := ?_) (a' := ?_) #[true, true, true, true, true, false, true, false, true, true, true, false, false, false, false, false, false, false, false, false] rfl rfl (any_of HT_.out (by kernel_rfl)) (fun _ _ _ h => h) (Or.inl ⟨by rfl, ?_⟩) ?_ ?_
            rotate_left
            ·intro w'
             go_simp
             with_reducible rfl
            rotate_left
            ·simp only [Act.put, List.setIfInBounds_toArray, List.set_cons_zero, List.set_cons_succ, i64_w, i32_w]
             rfl
            refine pure_ (i := 12) (N := some 42) (v := ?_) (a' := ?_) #[true, true, true, true, true, false, true, false, true, true, true, false, true, false, false, false, false, false, false, false] rfl rfl (any_of HT_.out (by kernel_rfl)) (fun _ _ _ h => h) (Or.inl ⟨by rfl, ?_⟩) ?_ ?_
            rotate_left
            ·intro w'
             go_simp
             with_reducible rfl
            rotate_left
            ·simp only [Act.put, List.setIfInBounds_toArray, List.set_cons_zero, List.set_cons_succ, i64_w, i32_w]
             rfl
            refine pure_ (i := 14) (N := some 44) (v := ?_) (a' := ?_) #[true, true, true, true, true, false, true, false, true, true, true, false, true, false, true, false, false, false, false, false] rfl rfl (any_of HT_.out (by kernel_rfl)) (fun _ _ _ h => h) (Or.inl ⟨by rfl, ?_⟩) ?_ ?_
            rotate_left
            ·intro w'
             go_simp
             with_reducible rfl
            rotate_left
            ·simp only [Act.put, List.setIfInBounds_toArray, List.set_cons_zero, List.set_cons_succ, i64_w, i32_w]
             rfl
            refine pure_ (i := 15) (N := some 45) (v := ?_) (a' := ?_) #[true, true, true, true, true, false, true, false, true, true, true, false, true, false, true, true, false, false, false, false] rfl rfl (any_of HT_.out (by kernel_rfl)) (fun _ _ _ h => h) (Or.inl ⟨by rfl, ?_⟩) ?_ ?_
            rotate_left
            ·intro w'
             go_simp
             with_reducible rfl
            rotate_left
            ·simp only [Act.put, List.setIfInBounds_toArray, List.set_cons_zero, List.set_cons_succ, i64_w, i32_w]
             rfl
            refine take_ (i := 5) (N := some 35) (v := ?_) (a' := ?_) #[true, true, true, true, true, true, true, false, true, true, true, false, true, false, true, true, false, false, false, false] rfl rfl (take_ofW HT_.out HW_.out (by kernel_rfl)) (fun _ _ _ h => h) (Or.inl ⟨by rfl, ?_⟩) hHeld ?_ ?_
            rotate_left
            ·intro w' s0
             go_simp
             with_reducible rfl
            rotate_left
            ·simp only [Act.put, List.setIfInBounds_toArray, List.set_cons_zero, List.set_cons_succ, i64_w, i32_w]
             rfl
            refine pure_ (i := 7) (N := some 37) (v := ?_) (a' := ?_) #[true, true, true, true, true, true, true, true, true, true, true, false, true, false, true, true, false, false, false, false] rfl rfl (any_of HT_.out (by kernel_rfl)) (fun _ _ _ h => h) (Or.inl ⟨by rfl, ?_⟩) ?_ ?_
            rotate_left
            ·intro w'
             go_simp
             with_reducible rfl
            rotate_left
            ·simp only [Act.put, List.setIfInBounds_toArray, List.set_cons_zero, List.set_cons_succ, i64_w, i32_w]
             rfl
            refine one_ (i := 11) (N := some 41) #[true, true, true, true, true, true, true, true, true, true, true, true, true, false, true, true, false, false, false, false] rfl rfl (one_of HT_.out (by kernel_rfl)) (by decide) (fun K hK => ?_)
            refine goes_ Try.func148 (by kernel_rfl) rfl #[.slice (some ad785) l5.length (c0 - (ji4).toNat), .int .i64 (wrap64 (x8_1 + 1))] (by rfl) rfl rfl (by (try simp only [List.map_toArray, List.map_cons, List.map_nil]); first | done | (rw [show l5.length = (l0.length - (ji4).toNat) from List.length_drop] <;> rfl) | (simp only [hji4]; rfl) | rfl | (simp only [List.length_drop, List.length_take]; rfl)) ?_
            with_reducible refine (vernierref04_digit.calls _ _ l5 (wrap64 (x8_1 + 1)) t786 _ ?side1 ?side2 A16.out).mono ?_
            (case side1 => repeat (first | exact (Kd.C_below HR780.out HB.out) | (with_reducible refine Kd.C_alloc ?_ _) | (with_reducible refine Kd.C_drewN ?_ _) | (with_reducible refine Kd.C_drew ?_)))
            (case side2 => exact HC780.out)
            rintro e w' ⟨rfl, ⟨nd, rfl⟩⟩
            refine ⟨_, rfl, ?_⟩
            have p18 : 0 ≤ (x8_1 : Int) := of_decide_eq_true (by first | (with_reducible assumption) | assumption)
            have q18 : (x8_1 : Int) < ((x7_1.length : Int) : Int) := of_decide_eq_true (by first | (with_reducible assumption) | assumption)
            obtain ⟨go18, co18, eo18, gb18, gl18, cl18, HG18⟩ := Kd.R_form HO_7.out (by omega)
            (first | cases eo18 | (injection eo18 with ea_ en_ ec_; (first | subst ea_ | (injection ea_ with ea_; subst ea_)); subst ec_; clear en_))
            have GB18 := Aside0.mk gb18
            have GG18 := Aside0.mk HG18
            clear gb18 gl18 HG18
            obtain ⟨hx18_0, hf18_0⟩ := Kd.R_celln 0 HO_7.out (x8_1 : Int) p18 q18
            replace p18 := eq_true p18
            replace q18 := eq_true q18
            have HP20 := Kd.R_putn HO_7.out (x8_1 : Int) (wrap64 ((wrap64 (Int.tdiv (rd l5 x8_1) t781)) + (wrap64 ((Int.tmod t786 t781) * (wrap64 ((16777216 : Int) / t781))))))
            rw [← Ny787.out] at HP20
            have HQ20 := Aside0.mk HP20
            clear HP20
            refine hK.out _ _ (((HB.out.cell (World.block_lt_of_cell? w _ hw785_0)).trans hw785_0)) (fun hHeld => ?_)
            clear hK K
            refine norm_ (a' := ?_) ?_ ?_
            rotate_left
            ·show Act.put _ (some 41) _ = _
             simp only [Act.put, List.setIfInBounds_toArray, List.set_cons_zero, List.set_cons_succ, i64_w, i32_w]
             rfl
            refine pure_ (i := 13) (N := some 43) (v := ?_) (a' := ?_) #[true, true, true, true, true, true, true, true, true, true, true, true, true, true, true, true, false, false, false, false] rfl rfl (any_of HT_.out (by kernel_rfl)) (fun _ _ _ h => h) (Or.inl ⟨by rfl, ?_⟩) ?_ ?_
            rotate_left
            ·intro w'
             go_simp
             with_reducible rfl
            rotate_left
            ·simp only [Act.put, List.setIfInBounds_toArray, List.set_cons_zero, List.set_cons_succ, i64_w, i32_w]
             rfl
            refine pure_ (i := 16) (N := some 46) (v := ?_) (a' := ?_) #[true, true, true, true, true, true, true, true, true, true, true, true, true, true, true, true, true, false, false, false] rfl rfl (any_of HT_.out (by kernel_rfl)) (fun _ _ _ h => h) (Or.inl ⟨by rfl, ?_⟩) ?_ ?_
            rotate_left
            ·intro w'
             go_simp
             with_reducible rfl
            rotate_left
            ·simp only [Act.put, List.setIfInBounds_toArray, List.set_cons_zero, List.set_cons_succ, i64_w, i32_w]
             rfl
            refine pure_ (i := 17) (N := some 47) (v := ?_) (a' := ?_) #[true, true, true, true, true, true, true, true, true, true, true, true, true, true, true, true, true, true, false, false] rfl rfl (any_of HT_.out (by kernel_rfl)) (fun _ _ _ h => h) (Or.inl ⟨by rfl, ?_⟩) ?_ ?_
            rotate_left
            ·intro w'
             go_simp
             with_reducible rfl
            rotate_left
            ·simp only [Act.put, List.setIfInBounds_toArray, List.set_cons_zero, List.set_cons_succ, i64_w, i32_w]
             rfl
            refine pure_ (i := 18) (N := some 48) (v := ?_) (a' := ?_) #[true, true, true, true, true, true, true, true, true, true, true, true, true, true, true, true, true, true, true, false] rfl rfl (any_of HT_.out (by kernel_rfl)) (fun _ _ _ h => h) (Or.inl ⟨by rfl, ?_⟩) ?_ ?_
            rotate_left
            ·intro w'
             go_simp
             with_reducible rfl
            rotate_left
            ·simp only [Act.put, List.setIfInBounds_toArray, List.set_cons_zero, List.set_cons_succ, i64_w, i32_w]
             rfl
            refine last_ (i := 19) (N := none) #[true, true, true, true, true, true, true, true, true, true, true, true, true, true, true, true, true, true, true, true] rfl rfl (one_of HT_.out (by kernel_rfl)) (by decide) (fun K hK => ?_)
            refine skip_ (w1 := ?_) (by rfl) rfl ?_ ?_
            rotate_left
            ·go_simp
             rfl
            refine hK.out _ _ ?_
            clear hK K
            refine done_ (done_of HT_.out (by kernel_rfl)) ?_
            try go_wp2
            go_roundg k1
            case measure => have := HK1.out; omega
            case rel => exact ⟨(y787), (wrap64 (x8_1 + 1)), okT, H', ⟨by have := HK1.out; omega⟩, ⟨by simp only [Int.tdiv_eq_ediv_of_nonneg (show (0 : Int) ≤ 16777216 by decide)]; (with_reducible repeat (first | apply Kd.R_alloc | apply Kd.R_drewN | apply Kd.R_drew)); exact HQ20.out⟩, ⟨by repeat (first | (with_reducible first | exact HB.out | apply below_alloc | apply pw_below_drewN | apply below_drew1 | refine below_set ?_ GB18.out) | exact HB.out)⟩⟩
           ·rw [if_neg c17] at H
            exact absurd H (by simp)
         ·rw [if_neg c14] at H
          exact absurd H (by simp)
        ·rw [if_neg c13] at H
         have c13b0 : decide (x8_1 < (l5.length : Int)) = false := decide_eq_false c13
         clear c13
         replace H := Option.bind_eq_some_iff.mp H
         obtain ⟨t788, A210, H⟩ := H
         try dsimp only at H
         have A21 := Aside0.mk A210
         clear A210
         obtain rfl := Option.some.inj H
         obtain ⟨Ao22, co22, eo22⟩ := Kd.R_slice HO_7.out
         subst eo22
         go_wp2_with (first | ((with_reducible refine gate_callee (f := 149) rfl ?_); refine goesL_ (some 50) rfl rfl Try.func149 (by kernel_rfl) rfl #[.slice Ao22 x7_1.length co22] rfl (by (try simp only [List.map_toArray, List.map_cons, List.map_nil]); first | done | rfl | (simp only [List.length_drop, List.length_take]; rfl)) ?_; (with_reducible refine (vernierref04_Cut.calls k1 (fun k_ => some k_ = (.slice Ao22 x7_1.length co22 : Value).ownBlock) (.slice Ao22 x7_1.length co22) x7_1 t788 w _ ?side1 ?side2 A21.out).mono ?_); (case side1 => repeat (first | (with_reducible first | exact HB.out | apply below_alloc | apply pw_below_drewN | apply below_drew1) | exact HB.out)); (case side2 => exact Kd.R_tight rfl HO_7.out); rintro e w23 ⟨v789, rfl, ho0, hb, hkp⟩; refine ⟨_, rfl, ?_⟩; have HO790 := Aside0.mk (Kd.R_mono (ok' := fun k_ => True) ho0 (fun k_ hk_ => trivial)); replace HB := Aside0.mk (hb); (try clear hb); (try clear hkp); (try clear ho0)))
         go_ret
         exact ⟨_, by first | rfl | (simp [errW_none, errW_some] <;> rfl) | (simp only [← hji4]; first | rfl | (simp [errW_none, errW_some] <;> rfl)) | (simp [*, errW_none, errW_some] <;> rfl), by (with_reducible repeat (first | apply Kd.R_alloc | apply Kd.R_drewN | apply Kd.R_drew)); exact HO790.out, hbT⟩
     ·rw [if_neg c9] at H
      exact absurd H (by simp)
    ·rw [if_neg c8] at H
     exact absurd H (by simp)
   ·rw [if_neg c6] at H
    exact absurd H (by simp)
  ·rw [if_neg c5] at H
   exact absurd H (by simp)
end Go.Proofs.Ytnlbfomlfhigcaa.Q
namespace Go.Proofs.Ytnlbfomlfhigcaa.Q
open Go.RowKit Go.Proofs.YtnlbfomlfhigcaaW.PrintWords Go.Proofs.YtnlbfomlfhigcaaW.PrintLast Go.Proofs.YtnlbfomlfhigcaaW.PrintMore
attribute [local go_sem] max2_int min2_int max_two min_two max_three min_three max_four min_four
set_option linter.unusedVariables false
set_option linter.unusedSimpArgs false
def vernierref04_Word.l0 : Nat → List Int → Int → Int → Option (Int)
 | 0, _, _, _ => none
 | k + 1, x0, x3, x4 => if x4 ≥ 0 then ((vernierref04_digit.f x0 x4).bind fun t791 => (vernierref04_Word.l0 k x0 (IntKind.u64.wrap ((IntKind.u64.wrap (x3 * 16777216)) + (IntKind.u64.wrap (t791)))) (wrap64 (x4 - 1)))) else (some x3)
def vernierref04_Word.f (k : Nat) (l0 : List Int) : Option (Int) := vernierref04_Word.l0 k l0 0 2
set_option maxHeartbeats 8000000 in
set_option maxRecDepth 100000 in
theorem vernierref04_Word.calls (k : Nat) (A0 : Option Addr) (c0 : Nat) (l0 : List Int) (r : Int) (w : World) (hr0 : Kd.C (Kd.int .i64) w A0 l0.length l0) (hc0 : l0.length ≤ c0) (h : vernierref04_Word.f k l0 = some r) :
  Calls Try.prog 147 #[.slice A0 l0.length c0] w fun e w' => e = .returned (.int .u64 r) ∧ Drawn0 w w' := by
 have HR0 := Aside0.mk hr0
 have HC0 := Aside0.mk hc0
 clear hr0 hc0
 have H := h
 clear h
 unfold vernierref04_Word.f at H
 have H' := Aside0.mk H
 clear H
 go_enter Try.func147, Try.ntmps147
 go_wp2
 go_loopg [3, 4] k (fun kq v3 v4 w' => ∃ (x3_1 : Int) (x4_1 : Int), v3 = .int .u64 x3_1 ∧ v4 = .int .i64 x4_1 ∧ Aside0 (vernierref04_Word.l0 kq l0 x3_1 x4_1 = some r) ∧ Aside0 (kq ≤ k) ∧ Drawn0 w w')
 case atStart => exact ⟨(0), (2), okT, okT, H', ⟨Nat.le_refl _⟩, by repeat (first | exact Drawn0.refl _ | apply Drawn0.step)⟩
 case round =>
  clear H'
  obtain ⟨x3_1, x4_1, rfl, rfl, HA, HK1, ⟨m1, rfl⟩⟩ := hrel
  cases gk with
  | zero => exact absurd HA.out (by simp [vernierref04_Word.l0])
  | succ k1 =>
   have H := HA.out
   clear HA
   simp only [vernierref04_Word.l0] at H
   by_cases c2 : x4_1 ≥ 0
   ·rw [if_pos c2] at H
    have c2b0 : decide (0 ≤ x4_1) = true := decide_eq_true c2
    clear c2
    replace H := Option.bind_eq_some_iff.mp H
    obtain ⟨t791, A30, H⟩ := H
    try dsimp only at H
    have A3 := Aside0.mk A30
    clear A30
    have H' := Aside0.mk H
    clear H
    go_wp2_with (first | ((with_reducible refine gate_callee (f := 148) rfl ?_); refine goesL_ (some 13) rfl rfl Try.func148 (by kernel_rfl) rfl #[.slice A0 l0.length c0, .int .i64 x4_1] rfl (by (try simp only [List.map_toArray, List.map_cons, List.map_nil]); first | done | rfl | (simp only [List.length_drop, List.length_take]; rfl)) ?_; (with_reducible refine (vernierref04_digit.calls _ _ l0 x4_1 t791 _ ?side1 ?side2 A3.out).mono ?_); (case side1 => repeat (first | exact HR0.out | (with_reducible refine Kd.C_alloc ?_ _) | (with_reducible refine Kd.C_drewN ?_ _) | (with_reducible refine Kd.C_drew ?_))); (case side2 => exact HC0.out); rintro e w' ⟨rfl, ⟨nd, rfl⟩⟩; refine ⟨_, rfl, ?_⟩))
    go_roundg k1
    case measure => have := HK1.out; omega
    case rel => exact ⟨(IntKind.u64.wrap ((IntKind.u64.wrap (x3_1 * 16777216)) + (IntKind.u64.wrap (t791)))), (wrap64 (x4_1 - 1)), okT, okT, H', ⟨by have := HK1.out; omega⟩, by repeat (first | exact Drawn0.refl _ | apply Drawn0.step)⟩
   ·rw [if_neg c2] at H
    have c2b0 : decide (0 ≤ x4_1) = false := decide_eq_false c2
    clear c2
    obtain rfl := Option.some.inj H
    go_wp2
    go_ret
    exact ⟨okT, by repeat (first | exact Drawn0.refl _ | apply Drawn0.step)⟩
end Go.Proofs.Ytnlbfomlfhigcaa.Q
