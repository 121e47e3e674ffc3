/- Walks and plain laws that the claim stands on: each theorem named calls says that a call of a function returns what its f computes; the others are plain laws of these f, and the words that the walks use. -/
import Derived.Test.YtnlbfomlfhigcaaGenConvertsV2
import Derived.Test.YtnlbfomlfhigcaaGenConvertsV13
namespace Go.Proofs.Ytnlbfomlfhigcaa.Q
open Go.RowKit Go.Proofs.YtnlbfomlfhigcaaW.PrintWords Go.Proofs.YtnlbfomlfhigcaaW.PrintLast Go.Proofs.YtnlbfomlfhigcaaW.PrintMore
attribute [local go_sem] max2_int min2_int max_two min_two max_three min_three max_four min_four
set_option linter.unusedVariables false
set_option linter.unusedSimpArgs false
theorem world_as {K : Act → World → Prop} {Q : World → Prop} {a : Act} {w : World} (h : Q w) (k : ∀ w', Q w' → K a w') : K a w := k w h
mutual
def vernierref06_Split.j0 : Nat → Int → Int → Int → Bool → Option (Bool × Bool × Int × Int × Int × Int × Int × Int × Int)
 | 0, _, _, _, _ => none
 | k + 1, x0, x1, x7, x23 => if x23 = true then (some (false, false, 0, 0, 0, 0, 0, 0, x7)) else ((vernierref06_String.f k x0 x1).bind fun t403 => ((vernierref01_Text.f k x1 x0).bind fun t404 => (if 0 < (t404.size : Int) then (if 0 < (t403.size : Int) then ((vernierref06_run.f k t403).bind fun t405 => (if (bt t403 0) = 49 then (vernierref06_Split.j1 k t403 ((bt t404 0) == 49) ((bt t403 0) == 49) t405 (wrap64 (t405 - 1)) 0 0 0 0) else (vernierref06_Split.j1 k t403 ((bt t404 0) == 49) ((bt t403 0) == 49) t405 (wrap64 (-t405)) 0 0 0 0))) else (none)) else (none))))
def vernierref06_Split.j1 : Nat → ByteArray → Bool → Bool → Int → Int → Int → Int → Int → Int → Option (Bool × Bool × Int × Int × Int × Int × Int × Int × Int)
 | 0, _, _, _, _, _, _, _, _, _ => none
 | k + 1, x8, x407000, x407001, x407002, x407003, x407004, x407005, x407006, x407007 => if x407002 < (x8.size : Int) then (if 0 ≤ (wrap64 (x407002 + 1)) then (if (wrap64 (x407002 + 1)) ≤ (x8.size : Int) then (vernierref06_Split.j2 k (x8.extract ((wrap64 (x407002 + 1)) : Int).toNat x8.size) x407000 x407001 x407002 x407003 x407004 x407005 x407006 x407007) else (none)) else (none)) else (vernierref06_Split.j2 k (⟨#[]⟩ : ByteArray) x407000 x407001 x407002 x407003 x407004 x407005 x407006 x407007)
def vernierref06_Split.j2 : Nat → ByteArray → Bool → Bool → Int → Int → Int → Int → Int → Int → Option (Bool × Bool × Int × Int × Int × Int × Int × Int × Int)
 | 0, _, _, _, _, _, _, _, _, _ => none
 | k + 1, x10, x407000, x407001, x407002, x407003, x407004, x407005, x407006, x407007 => if (x10.size : Int) > 2 then (vernierref06_Split.j3 k x10 x407000 x407001 x407002 x407003 2 x407005 x407006 x407007) else (vernierref06_Split.j3 k x10 x407000 x407001 x407002 x407003 (x10.size : Int) x407005 x407006 x407007)
def vernierref06_Split.j3 : Nat → ByteArray → Bool → Bool → Int → Int → Int → Int → Int → Int → Option (Bool × Bool × Int × Int × Int × Int × Int × Int × Int)
 | 0, _, _, _, _, _, _, _, _, _ => none
 | k + 1, x10, x407000, x407001, x407002, x407003, x407004, x407005, x407006, x407007 => if 0 ≤ x407004 then (if x407004 ≤ (x10.size : Int) then (if (x10.extract 0 (x407004 : Int).toNat).size + 2 ≤ 9223372036854775807 then (if 0 ≤ 2 then (if 2 ≤ (((x10.extract 0 (x407004 : Int).toNat) ++ (⟨#[48, 48]⟩ : ByteArray)).size : Int) then ((vernierref01_Number.f k (((x10.extract 0 (x407004 : Int).toNat) ++ (⟨#[48, 48]⟩ : ByteArray)).extract 0 2)).bind fun t407 => ((vernierref01_Number.f k (x10.extract (x407004 : Int).toNat x10.size)).bind fun t408 => (some (x407000, x407001, x407002, x407003, x407004, wrap64 (t407), wrap64 ((x10.size : Int) - x407004), t408, 0)))) else (none)) else (none)) else (none)) else (none)) else (none)
end
def vernierref06_Split.f (k : Nat) (a0 : Int) (a1 : Int) : Option (Bool × Bool × Int × Int × Int × Int × Int × Int × Int) := (vernierref05_Kind.f k a0 a1).bind fun bt401 => (if bt401.2 = 0 then (vernierref06_Split.j0 k a0 a1 bt401.2 (bt401.1 != 1)) else (vernierref06_Split.j0 k a0 a1 bt401.2 true))
def vernierref06_Split.T5 : Bool × List (List Nat × List Nat) := (true, [([], []), ([], []), ([0, 1], [0, 1]), ([2], [2]), ([3], [3]), ([], []), ([5], [5]), ([6], [6]), ([], []), ([8, 2], [8]), ([4, 7, 9], [4, 7, 9]), ([], []), ([11, 10, 9, 0, 1, 2, 3, 4, 5, 6, 7, 8, 9, 10, 11], [10, 11])])
def vernierref06_Split.B5 : List Nat := [0, 0, 3, 7, 15, 0, 32, 96, 0, 263, 1023, 0, 4095]
theorem vernierref06_Split.tab5 : rtab .any (opsOf Try.f133 5) = vernierref06_Split.T5 := by kernel_rfl
theorem vernierref06_Split.bits5 : waitsOk vernierref06_Split.T5.2 vernierref06_Split.B5 = true := by kernel_rfl
set_option maxHeartbeats 8000000 in
set_option maxRecDepth 100000 in
theorem vernierref06_Split.calls (k : Nat) (a0 : Int) (a1 : Int) (r1 : Bool) (r2 : Bool) (r3 : Int) (r4 : Int) (r5 : Int) (r6 : Int) (r7 : Int) (r8 : Int) (r9 : Int) (w : World) (h : vernierref06_Split.f k a0 a1 = some (r1, r2, r3, r4, r5, r6, r7, r8, r9)) :
  Calls Try.prog 133 #[.int .i64 a0, .int .u64 a1] w fun e w' => e = .returned (.tuple #[.agg #[.bool r1, .bool r2, .int .i64 r3, .int .i64 r4, .int .i64 r5, .int .i64 r6, .int .i64 r7, .int .u64 r8], .int .i64 r9]) ∧ Below w.heap.size w w' := by
 have hu131 := Try.underlying131
 have HB := Aside0.mk (Below.refl w.heap.size w)
 have H := h
 clear h
 unfold vernierref06_Split.f at H
 replace H := Option.bind_eq_some_iff.mp H
 obtain ⟨⟨t401, t402⟩, A30, H⟩ := H
 try dsimp only at H
 have A3 := Aside0.mk A30
 clear A30
 have HC4 := Aside0.mk H
 clear H
 go_enter Try.func133, Try.ntmps133
 go_upto_region 2 with (first | ((with_reducible refine gate_dst (N := 4) rfl ?_); refine boxA 4 (#[.bool false, .bool false, .int .i64 0, .int .i64 0, .int .i64 0, .int .i64 0, .int .i64 0, .int .u64 0]) 131 ?_; intro gb400 hg w5 BK400 hb; have GW400 := geT hg; have GE400 := GW400; replace HB := hbS hb; clear hb hg) | ((with_reducible refine gate_callee (f := 132) rfl ?_); refine goA (some 15) Try.func132 (vernierref05_Kind.calls k a0 a1 t401 t402 _ A3.out) ?_; intro w6 hb; replace BK400 := bkB BK400 hb; replace HB := hbS hb; clear hb))
 (try simp only [Act.put, List.setIfInBounds_toArray, List.set_cons_zero, List.set_cons_succ])
 go_cut [23] (fun v23 wc => ∃ (kq : Nat) (x23_3 : Bool), v23 = .bool x23_3 ∧ Aside0 (vernierref06_Split.j0 kq a0 a1 t402 x23_3 = some (r1, r2, r3, r4, r5, r6, r7, r8, r9)) ∧ Aside0 (kq ≤ k) ∧ Aside0 (wc.heap[gb400]? = some (.cells #[.bool false, .bool false, .int .i64 0, .int .i64 0, .int .i64 0, .int .i64 0, .int .i64 0, .int .u64 0] 131 (0, 0))) ∧ Aside0 (Below w.heap.size w wc))
 case first =>
  have H := HC4.out
  clear HC4
  by_cases c7 : t402 = 0
  ·rw [if_pos c7] at H
   obtain ⟨c7b0, c7b1⟩ := eqY c7
   clear c7
   (first | rw [c7b0] | (simp only [i64_w, i32_w]; rw [c7b0]) | rw [c7b1] | skip)
   have H' := Aside0.mk H
   clear H
   go_wp2
   go_meet
   case rel => exact ⟨_, ((t401 != 1)), okT, H', leT, ⟨bkT BK400⟩, ⟨hbT⟩⟩
  ·rw [if_neg c7] at H
   obtain ⟨c7b0, c7b1⟩ := eqN c7
   (first | rw [c7b0] | (simp only [i64_w, i32_w]; rw [c7b0]) | rw [c7b1] | skip)
   have H' := Aside0.mk H
   clear H
   go_wp2
   go_meet
   case rel => exact ⟨_, (true), okT, H', leT, ⟨bkT BK400⟩, ⟨hbT⟩⟩
 case rest =>
  clear HC4
  obtain ⟨kq, x23_3, rfl, HA, HJ3, BK400, HB⟩ := hcut
  cases kq with
  | zero => exact absurd HA.out (by simp [vernierref06_Split.j0])
  | succ kj3 =>
   have H := HA.out
   clear HA
   simp only [vernierref06_Split.j0] at H
   by_cases c8 : x23_3 = true
   ·subst c8
    rw [if_pos rfl] at H
    simp only [Option.some.injEq, Prod.mk.injEq] at H
    obtain ⟨rfl, rfl, rfl, rfl, rfl, rfl, rfl, rfl, rfl⟩ := H
    obtain ⟨z9_0, z9_1, z9_2, z9_3, z9_4, z9_5, z9_6, z9_7, y9_0, y9_1, y9_2, y9_3, y9_4, y9_5, y9_6, y9_7⟩ := cz8 BK400
    go_wp2
    refine bodyPost_ret (results_ct rfl _ _ gb400 131 #[.bool false, .bool false, .int .i64 0, .int .i64 0, .int .i64 0, .int .i64 0, .int .i64 0, .int .u64 0] (0, 0) _ rfl (bkT BK400) Try.underlying131 rfl (by kernel_rfl)) rfl ?_
    exact ⟨reT, hbT⟩
   ·replace c8 := Bool.eq_false_iff.mpr c8
    subst c8
    rw [if_neg (show ¬ (false = true) by decide)] at H
    replace H := Option.bind_eq_some_iff.mp H
    obtain ⟨t403, A100, H⟩ := H
    try dsimp only at H
    have A10 := Aside0.mk A100
    clear A100
    replace H := Option.bind_eq_some_iff.mp H
    obtain ⟨t404, A110, H⟩ := H
    try dsimp only at H
    have A11 := Aside0.mk A110
    clear A110
    by_cases c12 : 0 < (t404.size : Int)
    ·rw [if_pos c12] at H
     have c12b0 : decide (0 < (t404.size : Int)) = true := decide_eq_true c12
     have c12b1 : decide (0 < t404.size) = true := decide_eq_true (by omega)
     clear c12
     by_cases c14 : 0 < (t403.size : Int)
     ·rw [if_pos c14] at H
      have c14b0 : decide (0 < (t403.size : Int)) = true := decide_eq_true c14
      have c14b1 : decide (0 < t403.size) = true := decide_eq_true (by omega)
      clear c14
      replace H := Option.bind_eq_some_iff.mp H
      obtain ⟨t405, A160, H⟩ := H
      try dsimp only at H
      have A16 := Aside0.mk A160
      clear A160
      have HC17 := Aside0.mk H
      clear H
      try go_wp2_with (first | ((with_reducible refine gate_callee (f := 158) rfl ?_); refine goA (some 28) Try.func158 (vernierref06_String.calls kj3 a0 a1 t403 _ A10.out) ?_; intro w18 hb; replace BK400 := bkB BK400 hb; replace HB := hbS hb; clear hb))
      have n0_ := Aside0.mk (blk_drew BK400.out)
      have n1_ := Aside0.mk (below_drew1 HB.out)
      clear BK400
      clear HB
      have BK400 := n0_
      have HB := n1_
      clear n0_ n1_
      have p15 : 0 ≤ (0 : Int) := (by omega)
      have q15 : 0 < t403.size := (by have : (0 : Int) < (t403.size : Int) := of_decide_eq_true (by first | (with_reducible assumption) | assumption); omega)
      have hx15 : ∀ h : 0 < t403.size, ((t403[0]'h).toNat : Int) = bt t403 0 := bt_at t403 0
      clear p15
      have qi15 : (0 < (t403.size : Int)) = True := eq_true (of_decide_eq_true (by first | (with_reducible assumption) | assumption))
      replace q15 := eq_true q15
      have q13 : 0 < t404.size := of_decide_eq_true c12b1
      have hx13 : ∀ h : 0 < t404.size, ((t404[0]'h).toNat : Int) = bt t404 0 := bt_at t404 0
      have qi13 : (0 < (t404.size : Int)) = True := eq_true (of_decide_eq_true c12b0)
      replace q13 := eq_true q13
      refine start_ (n := 13) (S := fun w' => True) (ds := []) #[false, false, false, false, false, false, false, false, false, false, false, false, false] (by kernel_rfl) rfl rfl trivial (fun hHeld => ?_); refine with_tabW vernierref06_Split.tab5 vernierref06_Split.bits5 (fun HT_ HW_ => ?_)
      generalize w18.drew = w19 at BK400 HB hHeld ⊢
      refine pure_ (i := 0) (N := some 29) (v := ?_) (a' := ?_) #[true, false, false, false, false, false, false, false, false, false, false, false, false] rfl rfl (any_of HT_.out (by kernel_rfl)) (fun _ _ _ h => h) (Or.inl ⟨by rfl, ?_⟩) ?_ ?_
      rotate_left
      ·intro w'
       go_simp
       with_reducible rfl
      rotate_left
      ·simp only [Act.put, List.setIfInBounds_toArray, List.set_cons_zero, List.set_cons_succ, i64_w, i32_w]
       rfl
      refine pure_ (i := 1) (N := some 30) (v := ?_) (a' := ?_) #[true, true, false, false, false, false, false, false, false, false, false, false, false] rfl rfl (any_of HT_.out (by kernel_rfl)) (fun _ _ _ h => h) (Or.inl ⟨by rfl, ?_⟩) ?_ ?_
      rotate_left
      ·intro w'
       go_simp
       with_reducible rfl
      rotate_left
      ·simp only [Act.put, List.setIfInBounds_toArray, List.set_cons_zero, List.set_cons_succ, i64_w, i32_w]
       rfl
      refine pure_ (i := 5) (N := some 34) (v := ?_) (a' := ?_) #[true, true, false, false, false, true, false, false, false, false, false, false, false] rfl rfl (any_of HT_.out (by kernel_rfl)) (fun _ _ _ h => h) (Or.inl ⟨by rfl, ?_⟩) ?_ ?_
      rotate_left
      ·intro w'
       go_simp
       with_reducible rfl
      rotate_left
      ·simp only [Act.put, List.setIfInBounds_toArray, List.set_cons_zero, List.set_cons_succ, i64_w, i32_w]
       rfl
      refine pure_ (i := 8) (N := some 37) (v := ?_) (a' := ?_) #[true, true, false, false, false, true, false, false, true, false, false, false, false] rfl rfl (any_of HT_.out (by kernel_rfl)) (fun _ _ _ h => h) (Or.inl ⟨by rfl, ?_⟩) ?_ ?_
      rotate_left
      ·intro w'
       go_simp
       with_reducible rfl
      rotate_left
      ·simp only [Act.put, List.setIfInBounds_toArray, List.set_cons_zero, List.set_cons_succ, i64_w, i32_w]
       rfl
      refine take_ (i := 6) (N := some 35) (v := ?_) (a' := ?_) #[true, true, false, false, false, true, true, false, true, false, false, false, false] rfl rfl (take_ofW HT_.out HW_.out (by kernel_rfl)) (fun _ _ _ h => h) (Or.inl ⟨by rfl, ?_⟩) hHeld ?_ ?_
      rotate_left
      ·intro w' _
       go_simp
       with_reducible rfl
      rotate_left
      ·simp only [Act.put, List.setIfInBounds_toArray, List.set_cons_zero, List.set_cons_succ, i64_w, i32_w]
       rfl
      refine pure_ (i := 7) (N := some 36) (v := ?_) (a' := ?_) #[true, true, false, false, false, true, true, true, true, false, false, false, false] rfl rfl (any_of HT_.out (by kernel_rfl)) (fun _ _ _ h => h) (Or.inl ⟨by rfl, ?_⟩) ?_ ?_
      rotate_left
      ·intro w'
       go_simp
       with_reducible rfl
      rotate_left
      ·simp only [Act.put, List.setIfInBounds_toArray, List.set_cons_zero, List.set_cons_succ, i64_w, i32_w]
       rfl
      refine join_ (σ := Nat) 1 #[true, true, true, true, true, true, true, true, true, true, true, true, false] (fun s_ => [(31, .string t404), (38, .int .i64 t405), (9, .pointer (some ⟨s_, 0, none⟩)), (32, .int .u8 (bt t404 0)), (33, .bool ((bt t404 0) == 49)), (39, .agg #[.bool ((bt t404 0) == 49), .bool ((bt t403 0) == 49), .int .i64 t405, .int .i64 0, .int .i64 0, .int .i64 0, .int .i64 0, .int .u64 0])]) (fun s_ w' => (w'.heap[gb400]? = some (.cells #[.bool false, .bool false, .int .i64 0, .int .i64 0, .int .i64 0, .int .i64 0, .int .i64 0, .int .u64 0] 131 (0, 0))) ∧ (w'.heap[s_]? = some (.cells #[.bool false, .bool false, .int .i64 0, .int .i64 0, .int .i64 0, .int .i64 0, .int .i64 0, .int .u64 0] 131 (0, 0))) ∧ (w.heap.size ≤ s_) ∧ (w.heap.size ≤ s_) ∧ (gb400 ≠ s_) ∧ (s_ ≠ gb400) ∧ (Below w.heap.size w w')) ?_ ?_
      rotate_left
      ·intro hCont
       refine two_ (i := 2) (j := 11) (Ni := some 31) (Nj := some 9) #[true, true, true, false, false, true, true, true, true, false, false, false, false] #[true, true, false, false, false, true, true, true, true, false, false, true, false] rfl rfl rfl rfl (two_of HT_.out (by kernel_rfl)) (by decide) (by decide) (fun K hK => ?_) (fun K hK => ?_)
       ·skip
        refine goes_ Try.func110 (by kernel_rfl) rfl #[.int .u64 a1, .int .i64 a0] (by rfl) rfl rfl (by (try simp only [List.map_toArray, List.map_cons, List.map_nil]); first | done | rfl | (simp only [List.length_drop, List.length_take]; rfl)) ?_
        with_reducible refine (vernierref01_Text.calls kj3 a1 a0 t404 _ A11.out).mono ?_
        rintro e w20 ⟨rfl, hb⟩
        refine ⟨_, rfl, ?_⟩
        have n0_ := bkB BK400 hb
        have n1_ := hbS hb
        clear BK400
        clear HB
        have BK400 := n0_
        have HB := n1_
        clear n0_ n1_
        (try clear hb)
        (try clear hb2)
        (try clear hk)
        (try clear hi)
        refine hK.out _ _ trivial (fun hHeld => ?_)
        clear hK K
        refine norm_ (a' := ?_) ?_ ?_
        rotate_left
        ·show Act.put _ (some 31) _ = _
         simp only [Act.put, List.setIfInBounds_toArray, List.set_cons_zero, List.set_cons_succ, i64_w, i32_w]
         rfl
        refine take_ (i := 3) (N := some 32) (v := ?_) (a' := ?_) #[true, true, true, true, false, true, true, true, true, false, false, false, false] rfl rfl (take_ofW HT_.out HW_.out (by kernel_rfl)) (fun _ _ _ h => h) (Or.inl ⟨by rfl, ?_⟩) hHeld ?_ ?_
        rotate_left
        ·intro w' _
         go_simp
         with_reducible rfl
        rotate_left
        ·simp only [Act.put, List.setIfInBounds_toArray, List.set_cons_zero, List.set_cons_succ, i64_w, i32_w]
         rfl
        refine pure_ (i := 4) (N := some 33) (v := ?_) (a' := ?_) #[true, true, true, true, true, true, true, true, true, false, false, false, false] rfl rfl (any_of HT_.out (by kernel_rfl)) (fun _ _ _ h => h) (Or.inl ⟨by rfl, ?_⟩) ?_ ?_
        rotate_left
        ·intro w'
         go_simp
         with_reducible rfl
        rotate_left
        ·simp only [Act.put, List.setIfInBounds_toArray, List.set_cons_zero, List.set_cons_succ, i64_w, i32_w]
         rfl
        refine two_ (i := 9) (j := 11) (Ni := some 38) (Nj := some 9) #[true, true, true, true, true, true, true, true, true, true, false, false, false] #[true, true, true, true, true, true, true, true, true, false, false, true, false] rfl rfl rfl rfl (two_of HT_.out (by kernel_rfl)) (by decide) (by decide) (fun K hK => ?_) (fun K hK => ?_)
        ·skip
         refine goes_ Try.func159 (by kernel_rfl) rfl #[.string t403] (by rfl) rfl rfl (by (try simp only [List.map_toArray, List.map_cons, List.map_nil]); first | done | rfl | (simp only [List.length_drop, List.length_take]; rfl)) ?_
         with_reducible refine (vernierref06_run.calls kj3 t403 t405 _ A16.out).mono ?_
         rintro e w' ⟨rfl, ⟨nd, rfl⟩⟩
         refine ⟨_, rfl, ?_⟩
         refine hK.out _ _ trivial (fun hHeld => ?_)
         clear hK K
         refine norm_ (a' := ?_) ?_ ?_
         rotate_left
         ·show Act.put _ (some 38) _ = _
          simp only [Act.put, List.setIfInBounds_toArray, List.set_cons_zero, List.set_cons_succ, i64_w, i32_w]
          rfl
         refine pure_ (i := 10) (N := some 39) (v := ?_) (a' := ?_) #[true, true, true, true, true, true, true, true, true, true, true, false, false] rfl rfl (any_of HT_.out (by kernel_rfl)) (fun _ _ _ h => h) (Or.inl ⟨by rfl, ?_⟩) ?_ ?_
         rotate_left
         ·intro w'
          go_simp
          with_reducible rfl
         rotate_left
         ·simp only [Act.put, List.setIfInBounds_toArray, List.set_cons_zero, List.set_cons_succ, i64_w, i32_w]
          rfl
         refine one_ (i := 11) (N := some 9) #[true, true, true, true, true, true, true, true, true, true, true, true, false] rfl rfl (one_of HT_.out (by kernel_rfl)) (by decide) (fun K hK => ?_)
         refine box_step ?hg (N := 9) ?hd (cs := #[.bool false, .bool false, .int .i64 0, .int .i64 0, .int .i64 0, .int .i64 0, .int .i64 0, .int .u64 0]) (t := 131) ?hr ?_; (case hd => rfl); (case hg => rfl); (case hr => first | (go_simp; done) | (go_simp; rfl))
         intro gb406 hg w21 hbox hb
         have n0_ := bkB BK400 hb
         have n1_ := hbS hb
         have n2_ := Aside0.mk (hbox)
         have n3_ := geT hg
         have n4_ := geT hg
         have n5_ := nlT BK400 hg
         have n6_ := ngT BK400 hg
         clear BK400
         clear HB
         have BK400 := n0_
         have HB := n1_
         have BK406 := n2_
         have GW406 := n3_
         have GE406 := n4_
         have NB400_406 := n5_
         have NB406_400 := n6_
         clear n0_ n1_ n2_ n3_ n4_ n5_ n6_
         clear hb hbox hg
         refine hK.out _ _ trivial (fun hHeld => ?_)
         clear hK K
         refine norm_ (a' := ?_) ?_ ?_
         rotate_left
         ·show Act.put _ (some 9) _ = _
          simp only [Act.put, List.setIfInBounds_toArray, List.set_cons_zero, List.set_cons_succ, i64_w, i32_w]
          rfl
         exact norm_ (by simp only [putAll, Act.put, List.setIfInBounds_toArray, List.set_cons_zero, List.set_cons_succ]) (hCont (gb406) _ ⟨(bkT BK400), (bkT BK406), GW406.out, GE406.out, NB400_406.out, NB406_400.out, hbT⟩)
        ·skip
         refine box_step ?hg (N := 9) ?hd (cs := #[.bool false, .bool false, .int .i64 0, .int .i64 0, .int .i64 0, .int .i64 0, .int .i64 0, .int .u64 0]) (t := 131) ?hr ?_; (case hd => rfl); (case hg => rfl); (case hr => first | (go_simp; done) | (go_simp; rfl))
         intro gb406 hg w21 hbox hb
         have n0_ := bkB BK400 hb
         have n1_ := hbS hb
         have n2_ := Aside0.mk (hbox)
         have n3_ := geT hg
         have n4_ := geT hg
         have n5_ := nlT BK400 hg
         have n6_ := ngT BK400 hg
         clear BK400
         clear HB
         have BK400 := n0_
         have HB := n1_
         have BK406 := n2_
         have GW406 := n3_
         have GE406 := n4_
         have NB400_406 := n5_
         have NB406_400 := n6_
         clear n0_ n1_ n2_ n3_ n4_ n5_ n6_
         clear hb hbox hg
         refine hK.out _ _ trivial (fun hHeld => ?_)
         clear hK K
         refine norm_ (a' := ?_) ?_ ?_
         rotate_left
         ·show Act.put _ (some 9) _ = _
          simp only [Act.put, List.setIfInBounds_toArray, List.set_cons_zero, List.set_cons_succ, i64_w, i32_w]
          rfl
         refine one_ (i := 9) (N := some 38) #[true, true, true, true, true, true, true, true, true, true, false, true, false] rfl rfl (one_of HT_.out (by kernel_rfl)) (by decide) (fun K hK => ?_)
         refine goes_ Try.func159 (by kernel_rfl) rfl #[.string t403] (by rfl) rfl rfl (by (try simp only [List.map_toArray, List.map_cons, List.map_nil]); first | done | rfl | (simp only [List.length_drop, List.length_take]; rfl)) ?_
         with_reducible refine (vernierref06_run.calls kj3 t403 t405 _ A16.out).mono ?_
         rintro e w' ⟨rfl, ⟨nd, rfl⟩⟩
         refine ⟨_, rfl, ?_⟩
         refine hK.out _ _ trivial (fun hHeld => ?_)
         clear hK K
         refine norm_ (a' := ?_) ?_ ?_
         rotate_left
         ·show Act.put _ (some 38) _ = _
          simp only [Act.put, List.setIfInBounds_toArray, List.set_cons_zero, List.set_cons_succ, i64_w, i32_w]
          rfl
         refine pure_ (i := 10) (N := some 39) (v := ?_) (a' := ?_) #[true, true, true, true, true, true, true, true, true, true, true, true, false] rfl rfl (any_of HT_.out (by kernel_rfl)) (fun _ _ _ h => h) (Or.inl ⟨by rfl, ?_⟩) ?_ ?_
         rotate_left
         ·intro w'
          go_simp
          with_reducible rfl
         rotate_left
         ·simp only [Act.put, List.setIfInBounds_toArray, List.set_cons_zero, List.set_cons_succ, i64_w, i32_w]
          rfl
         exact norm_ (by simp only [putAll, Act.put, List.setIfInBounds_toArray, List.set_cons_zero, List.set_cons_succ]) (hCont (gb406) _ ⟨(bkT BK400), (bkT BK406), GW406.out, GE406.out, NB400_406.out, NB406_400.out, hbT⟩)
       ·skip
        refine box_step ?hg (N := 9) ?hd (cs := #[.bool false, .bool false, .int .i64 0, .int .i64 0, .int .i64 0, .int .i64 0, .int .i64 0, .int .u64 0]) (t := 131) ?hr ?_; (case hd => rfl); (case hg => rfl); (case hr => first | (go_simp; done) | (go_simp; rfl))
        intro gb406 hg w20 hbox hb
        have n0_ := bkB BK400 hb
        have n1_ := hbS hb
        have n2_ := Aside0.mk (hbox)
        have n3_ := geT hg
        have n4_ := geT hg
        have n5_ := nlT BK400 hg
        have n6_ := ngT BK400 hg
        clear BK400
        clear HB
        have BK400 := n0_
        have HB := n1_
        have BK406 := n2_
        have GW406 := n3_
        have GE406 := n4_
        have NB400_406 := n5_
        have NB406_400 := n6_
        clear n0_ n1_ n2_ n3_ n4_ n5_ n6_
        clear hb hbox hg
        refine hK.out _ _ trivial (fun hHeld => ?_)
        clear hK K
        refine norm_ (a' := ?_) ?_ ?_
        rotate_left
        ·show Act.put _ (some 9) _ = _
         simp only [Act.put, List.setIfInBounds_toArray, List.set_cons_zero, List.set_cons_succ, i64_w, i32_w]
         rfl
        refine one_ (i := 2) (N := some 31) #[true, true, true, false, false, true, true, true, true, false, false, true, false] rfl rfl (one_of HT_.out (by kernel_rfl)) (by decide) (fun K hK => ?_)
        refine goes_ Try.func110 (by kernel_rfl) rfl #[.int .u64 a1, .int .i64 a0] (by rfl) rfl rfl (by (try simp only [List.map_toArray, List.map_cons, List.map_nil]); first | done | rfl | (simp only [List.length_drop, List.length_take]; rfl)) ?_
        with_reducible refine (vernierref01_Text.calls kj3 a1 a0 t404 _ A11.out).mono ?_
        rintro e w21 ⟨rfl, hb⟩
        refine ⟨_, rfl, ?_⟩
        have n0_ := bkB BK400 hb
        have n1_ := bkB BK406 hb
        have n2_ := hbS hb
        clear BK400
        clear BK406
        clear HB
        have BK400 := n0_
        have BK406 := n1_
        have HB := n2_
        clear n0_ n1_ n2_
        (try clear hb)
        (try clear hb2)
        (try clear hk)
        (try clear hi)
        refine hK.out _ _ trivial (fun hHeld => ?_)
        clear hK K
        refine norm_ (a' := ?_) ?_ ?_
        rotate_left
        ·show Act.put _ (some 31) _ = _
         simp only [Act.put, List.setIfInBounds_toArray, List.set_cons_zero, List.set_cons_succ, i64_w, i32_w]
         rfl
        refine take_ (i := 3) (N := some 32) (v := ?_) (a' := ?_) #[true, true, true, true, false, true, true, true, true, false, false, true, false] rfl rfl (take_ofW HT_.out HW_.out (by kernel_rfl)) (fun _ _ _ h => h) (Or.inl ⟨by rfl, ?_⟩) hHeld ?_ ?_
        rotate_left
        ·intro w' _
         go_simp
         with_reducible rfl
        rotate_left
        ·simp only [Act.put, List.setIfInBounds_toArray, List.set_cons_zero, List.set_cons_succ, i64_w, i32_w]
         rfl
        refine pure_ (i := 4) (N := some 33) (v := ?_) (a' := ?_) #[true, true, true, true, true, true, true, true, true, false, false, true, false] rfl rfl (any_of HT_.out (by kernel_rfl)) (fun _ _ _ h => h) (Or.inl ⟨by rfl, ?_⟩) ?_ ?_
        rotate_left
        ·intro w'
         go_simp
         with_reducible rfl
        rotate_left
        ·simp only [Act.put, List.setIfInBounds_toArray, List.set_cons_zero, List.set_cons_succ, i64_w, i32_w]
         rfl
        refine one_ (i := 9) (N := some 38) #[true, true, true, true, true, true, true, true, true, true, false, true, false] rfl rfl (one_of HT_.out (by kernel_rfl)) (by decide) (fun K hK => ?_)
        refine goes_ Try.func159 (by kernel_rfl) rfl #[.string t403] (by rfl) rfl rfl (by (try simp only [List.map_toArray, List.map_cons, List.map_nil]); first | done | rfl | (simp only [List.length_drop, List.length_take]; rfl)) ?_
        with_reducible refine (vernierref06_run.calls kj3 t403 t405 _ A16.out).mono ?_
        rintro e w' ⟨rfl, ⟨nd, rfl⟩⟩
        refine ⟨_, rfl, ?_⟩
        refine hK.out _ _ trivial (fun hHeld => ?_)
        clear hK K
        refine norm_ (a' := ?_) ?_ ?_
        rotate_left
        ·show Act.put _ (some 38) _ = _
         simp only [Act.put, List.setIfInBounds_toArray, List.set_cons_zero, List.set_cons_succ, i64_w, i32_w]
         rfl
        refine pure_ (i := 10) (N := some 39) (v := ?_) (a' := ?_) #[true, true, true, true, true, true, true, true, true, true, true, true, false] rfl rfl (any_of HT_.out (by kernel_rfl)) (fun _ _ _ h => h) (Or.inl ⟨by rfl, ?_⟩) ?_ ?_
        rotate_left
        ·intro w'
         go_simp
         with_reducible rfl
        rotate_left
        ·simp only [Act.put, List.setIfInBounds_toArray, List.set_cons_zero, List.set_cons_succ, i64_w, i32_w]
         rfl
        exact norm_ (by simp only [putAll, Act.put, List.setIfInBounds_toArray, List.set_cons_zero, List.set_cons_succ]) (hCont (gb406) _ ⟨(bkT BK400), (bkT BK406), GW406.out, GE406.out, NB400_406.out, NB406_400.out, hbT⟩)
      rintro gb406 w22 ⟨h0_, h1_, h2_, h3_, h4_, h5_, h6_⟩
      have n0_ : Aside0 (w22.heap[gb400]? = some (.cells #[.bool false, .bool false, .int .i64 0, .int .i64 0, .int .i64 0, .int .i64 0, .int .i64 0, .int .u64 0] 131 (0, 0))) := ⟨h0_⟩
      have n1_ : Aside0 (w22.heap[gb406]? = some (.cells #[.bool false, .bool false, .int .i64 0, .int .i64 0, .int .i64 0, .int .i64 0, .int .i64 0, .int .u64 0] 131 (0, 0))) := ⟨h1_⟩
      have n2_ : Aside0 (w.heap.size ≤ gb406) := ⟨h2_⟩
      have n3_ : Aside0 (w.heap.size ≤ gb406) := ⟨h3_⟩
      have n4_ : Aside0 (gb400 ≠ gb406) := ⟨h4_⟩
      have n5_ : Aside0 (gb406 ≠ gb400) := ⟨h5_⟩
      have n6_ : Aside0 (Below w.heap.size w w22) := ⟨h6_⟩
      clear BK400
      clear HB
      clear h0_ h1_ h2_ h3_ h4_ h5_ h6_
      have BK400 := n0_
      have BK406 := n1_
      have GW406 := n2_
      have GE406 := n3_
      have NB400_406 := n4_
      have NB406_400 := n5_
      have HB := n6_
      clear n0_ n1_ n2_ n3_ n4_ n5_ n6_
      have hHeld := trivial
      have p13 : 0 ≤ (0 : Int) := (by omega)
      have q13 : 0 < t404.size := (by have : (0 : Int) < (t404.size : Int) := of_decide_eq_true (by first | (with_reducible assumption) | assumption); omega)
      have hx13 : ∀ h : 0 < t404.size, ((t404[0]'h).toNat : Int) = bt t404 0 := bt_at t404 0
      clear p13
      have qi13 : (0 < (t404.size : Int)) = True := eq_true (of_decide_eq_true (by first | (with_reducible assumption) | assumption))
      replace q13 := eq_true q13
      refine norm_ (a' := ?_) ?_ ?_
      rotate_left
      ·simp only [putAll, Act.put, List.setIfInBounds_toArray, List.set_cons_zero, List.set_cons_succ]
       rfl
      refine one_ (i := 12) (N := none) #[true, true, true, true, true, true, true, true, true, true, true, true, true] rfl rfl (one_of HT_.out (by kernel_rfl)) (by decide) (fun K hK => ?_)
      have hs23 : w22.cell? ⟨gb406, 0, none⟩ = some (.bool false) := (blk_cell BK406.out 0).trans rfl
      have hfs23 := blk_frozen BK406.out 0
      have hns23_0 := NB400_406.out
      have hms23_0 := NB406_400.out
      have hs24 : w22.cell? ⟨gb406, 1, none⟩ = some (.bool false) := (blk_cell BK406.out 1).trans rfl
      have hfs24 := blk_frozen BK406.out 1
      have hns24_0 := NB400_406.out
      have hms24_0 := NB406_400.out
      have hs25 : w22.cell? ⟨gb406, 2, none⟩ = some (.int .i64 0) := (blk_cell BK406.out 2).trans rfl
      have hfs25 := blk_frozen BK406.out 2
      have hns25_0 := NB400_406.out
      have hms25_0 := NB406_400.out
      have hs26 : w22.cell? ⟨gb406, 3, none⟩ = some (.int .i64 0) := (blk_cell BK406.out 3).trans rfl
      have hfs26 := blk_frozen BK406.out 3
      have hns26_0 := NB400_406.out
      have hms26_0 := NB406_400.out
      have hs27 : w22.cell? ⟨gb406, 4, none⟩ = some (.int .i64 0) := (blk_cell BK406.out 4).trans rfl
      have hfs27 := blk_frozen BK406.out 4
      have hns27_0 := NB400_406.out
      have hms27_0 := NB406_400.out
      have hs28 : w22.cell? ⟨gb406, 5, none⟩ = some (.int .i64 0) := (blk_cell BK406.out 5).trans rfl
      have hfs28 := blk_frozen BK406.out 5
      have hns28_0 := NB400_406.out
      have hms28_0 := NB406_400.out
      have hs29 : w22.cell? ⟨gb406, 6, none⟩ = some (.int .i64 0) := (blk_cell BK406.out 6).trans rfl
      have hfs29 := blk_frozen BK406.out 6
      have hns29_0 := NB400_406.out
      have hms29_0 := NB406_400.out
      have hs30 : w22.cell? ⟨gb406, 7, none⟩ = some (.int .u64 0) := (blk_cell BK406.out 7).trans rfl
      have hfs30 := blk_frozen BK406.out 7
      have hns30_0 := NB400_406.out
      have hms30_0 := NB406_400.out
      refine skip_ (w1 := ?_) (by rfl) rfl ?_ ?_
      rotate_left
      ·go_simp
       rfl
      refine hK.out _ _ trivial (fun hHeld => ?_)
      clear hK K
      refine done_ (done_of HT_.out (by kernel_rfl)) ?_
      refine world_as (Q := fun wc => Aside0 (wc.heap[gb400]? = some (.cells #[.bool false, .bool false, .int .i64 0, .int .i64 0, .int .i64 0, .int .i64 0, .int .i64 0, .int .u64 0] 131 (0, 0))) ∧ Aside0 (wc.heap[gb406]? = some (.cells #[.bool ((bt t404 0) == 49), .bool ((bt t403 0) == 49), .int .i64 t405, .int .i64 0, .int .i64 0, .int .i64 0, .int .i64 0, .int .u64 0] 131 (0, 0))) ∧ Aside0 (Below w.heap.size w wc)) ⟨⟨bkT BK400⟩, ⟨bkT BK406⟩, ⟨hbT⟩⟩ ?_
      clear BK400 BK406 HB
      rintro w23 ⟨BK400, BK406, HB⟩
      have hnb31 := NB406_400.out
      have hnc31 := NB400_406.out
      obtain ⟨z32_0, z32_1, z32_2, z32_3, z32_4, z32_5, z32_6, z32_7, y32_0, y32_1, y32_2, y32_3, y32_4, y32_5, y32_6, y32_7⟩ := cz8 BK406
      go_upto_if 45 with (fail)
      go_cut [] (fun wc => ∃ (kq : Nat) (x407003_16 : Int), Aside0 (vernierref06_Split.j1 kq t403 ((bt t404 0) == 49) ((bt t403 0) == 49) t405 x407003_16 0 0 0 0 = some (r1, r2, r3, r4, r5, r6, r7, r8, r9)) ∧ Aside0 (kq ≤ kj3) ∧ Aside0 (wc.heap[gb400]? = some (.cells #[.bool false, .bool false, .int .i64 0, .int .i64 0, .int .i64 0, .int .i64 0, .int .i64 0, .int .u64 0] 131 (0, 0))) ∧ Aside0 (wc.heap[gb406]? = some (.cells #[.bool ((bt t404 0) == 49), .bool ((bt t403 0) == 49), .int .i64 t405, .int .i64 x407003_16, .int .i64 0, .int .i64 0, .int .i64 0, .int .u64 0] 131 (0, 0))) ∧ Aside0 (Below w.heap.size w wc))
      case first =>
       have H := HC17.out
       clear HC17
       by_cases c33 : (bt t403 0) = 49
       ·rw [if_pos c33] at H
        obtain ⟨c33b0, c33b1⟩ := eqY c33
        clear c33
        (first | rw [c33b0] | (simp only [i64_w, i32_w]; rw [c33b0]) | rw [c33b1] | skip)
        have H' := Aside0.mk H
        clear H
        have hnb34 := NB406_400.out
        have hnc34 := NB400_406.out
        obtain ⟨z35_0, z35_1, z35_2, z35_3, z35_4, z35_5, z35_6, z35_7, y35_0, y35_1, y35_2, y35_3, y35_4, y35_5, y35_6, y35_7⟩ := cz8 BK406
        go_wp2
        go_meet
        case rel => exact ⟨_, (wrap64 (t405 - 1)), H', ⟨by have := HJ3.out; first | omega | exact Nat.le_refl _⟩, ⟨bkT BK400⟩, ⟨bkT BK406⟩, ⟨hbT⟩⟩
       ·rw [if_neg c33] at H
        obtain ⟨c33b0, c33b1⟩ := eqN c33
        (first | rw [c33b0] | (simp only [i64_w, i32_w]; rw [c33b0]) | rw [c33b1] | skip)
        have H' := Aside0.mk H
        clear H
        go_wp2
        go_meet
        case rel => exact ⟨_, (wrap64 (-t405)), H', ⟨by have := HJ3.out; first | omega | exact Nat.le_refl _⟩, ⟨bkT BK400⟩, ⟨bkT BK406⟩, ⟨hbT⟩⟩
      case rest =>
       clear HC17
       try clear c8
       try clear c12
       try clear c12b0
       try clear c12b1
       try clear p13 p13
       try clear q13 q13
       try clear hx13
       try clear qi13
       try clear c14
       try clear c14b0
       try clear c14b1
       try clear p15 p15
       try clear q15 q15
       try clear hx15
       try clear qi15
       try clear z32_0 z32_1 z32_2 z32_3 z32_4 z32_5 z32_6 z32_7 y32_0 y32_1 y32_2 y32_3 y32_4 y32_5 y32_6 y32_7
       obtain ⟨kq, x407003_16, HA, HJ16, BK400, BK406, HB⟩ := hcut
       cases kq with
       | zero => exact absurd HA.out (by simp [vernierref06_Split.j1])
       | succ kj16 =>
        have H := HA.out
        clear HA
        simp only [vernierref06_Split.j1] at H
        have HC36 := Aside0.mk H
        clear H
        have hnb37 := NB406_400.out
        have hnc37 := NB400_406.out
        obtain ⟨z38_0, z38_1, z38_2, z38_3, z38_4, z38_5, z38_6, z38_7, y38_0, y38_1, y38_2, y38_3, y38_4, y38_5, y38_6, y38_7⟩ := cz8 BK406
        go_upto_if 54 with (fail)
        go_cut [10] (fun v10 wc => ∃ (kq : Nat) (x10_35 : ByteArray), v10 = .string x10_35 ∧ Aside0 (vernierref06_Split.j2 kq x10_35 ((bt t404 0) == 49) ((bt t403 0) == 49) t405 x407003_16 0 0 0 0 = some (r1, r2, r3, r4, r5, r6, r7, r8, r9)) ∧ Aside0 (kq ≤ kj16) ∧ Aside0 (wc.heap[gb400]? = some (.cells #[.bool false, .bool false, .int .i64 0, .int .i64 0, .int .i64 0, .int .i64 0, .int .i64 0, .int .u64 0] 131 (0, 0))) ∧ Aside0 (wc.heap[gb406]? = some (.cells #[.bool ((bt t404 0) == 49), .bool ((bt t403 0) == 49), .int .i64 t405, .int .i64 x407003_16, .int .i64 0, .int .i64 0, .int .i64 0, .int .u64 0] 131 (0, 0))) ∧ Aside0 (Below w.heap.size w wc))
        case first =>
         have H := HC36.out
         clear HC36
         by_cases c39 : t405 < (t403.size : Int)
         ·rw [if_pos c39] at H
          have c39b0 : decide (t405 < (t403.size : Int)) = true := decide_eq_true c39
          clear c39
          (first | rw [c39b0] | (simp only [i64_w, i32_w]; rw [c39b0]) | rw [c39b1] | skip)
          obtain ⟨ji40, hji40⟩ : ∃ j_ : Int, (wrap64 (t405 + 1)) = j_ := ⟨_, rfl⟩
          replace H : (if 0 ≤ (ji40) then (if (ji40) ≤ (t403.size : Int) then (vernierref06_Split.j2 kj16 (t403.extract ((ji40) : Int).toNat t403.size) ((bt t404 0) == 49) ((bt t403 0) == 49) t405 x407003_16 0 0 0 0) else (none)) else (none)) = some (r1, r2, r3, r4, r5, r6, r7, r8, r9) := by first | (rw [hji40] at H; exact H) | (simp only [hji40] at H ⊢; exact H)
          have hji40w : (IntKind.i64.wrap (t405 + 1)) = ji40 := (i64_w _).trans hji40
          by_cases c41 : 0 ≤ (ji40)
          ·rw [if_pos c41] at H
           have c41b0 := eq_true c41
           have c41b1 : decide (0 ≤ (ji40)) = true := decide_eq_true c41
           clear c41
           by_cases c42 : (ji40) ≤ (t403.size : Int)
           ·rw [if_pos c42] at H
            have c42b0 := eq_true c42
            have c42b1 : decide ((ji40) ≤ (t403.size : Int)) = true := decide_eq_true c42
            clear c42
            have H' := Aside0.mk H
            clear H
            have hnb43 := NB406_400.out
            have hnc43 := NB400_406.out
            obtain ⟨z44_0, z44_1, z44_2, z44_3, z44_4, z44_5, z44_6, z44_7, y44_0, y44_1, y44_2, y44_3, y44_4, y44_5, y44_6, y44_7⟩ := cz8 BK406
            go_wp2
            go_meet
            case rel => exact ⟨_, (t403.extract ((ji40) : Int).toNat t403.size), (by first | rfl | (simp; done) | (simp only [← hji40] <;> (first | rfl | simp)) | (simp [*]; done)), H', ⟨by have := HJ3.out; have := HJ16.out; first | omega | exact Nat.le_refl _⟩, ⟨bkT BK400⟩, ⟨bkT BK406⟩, ⟨hbT⟩⟩
           ·rw [if_neg c42] at H
            exact absurd H (by simp)
          ·rw [if_neg c41] at H
           exact absurd H (by simp)
         ·rw [if_neg c39] at H
          have c39b0 : decide (t405 < (t403.size : Int)) = false := decide_eq_false c39
          clear c39
          (first | rw [c39b0] | (simp only [i64_w, i32_w]; rw [c39b0]) | rw [c39b1] | skip)
          have H' := Aside0.mk H
          clear H
          go_wp2
          go_meet
          case rel => exact ⟨_, ((⟨#[]⟩ : ByteArray)), okT, H', ⟨by have := HJ3.out; have := HJ16.out; first | omega | exact Nat.le_refl _⟩, ⟨bkT BK400⟩, ⟨bkT BK406⟩, ⟨hbT⟩⟩
        case rest =>
         clear HC36
         try clear z38_0 z38_1 z38_2 z38_3 z38_4 z38_5 z38_6 z38_7 y38_0 y38_1 y38_2 y38_3 y38_4 y38_5 y38_6 y38_7
         obtain ⟨kq, x10_35, rfl, HA, HJ35, BK400, BK406, HB⟩ := hcut
         cases kq with
         | zero => exact absurd HA.out (by simp [vernierref06_Split.j2])
         | succ kj35 =>
          have H := HA.out
          clear HA
          simp only [vernierref06_Split.j2] at H
          have HC45 := Aside0.mk H
          clear H
          have hnb46 := NB406_400.out
          have hnc46 := NB400_406.out
          obtain ⟨z47_0, z47_1, z47_2, z47_3, z47_4, z47_5, z47_6, z47_7, y47_0, y47_1, y47_2, y47_3, y47_4, y47_5, y47_6, y47_7⟩ := cz8 BK406
          go_upto_if 65 with (fail)
          go_cut [] (fun wc => ∃ (kq : Nat) (x407004_44 : Int), Aside0 (vernierref06_Split.j3 kq x10_35 ((bt t404 0) == 49) ((bt t403 0) == 49) t405 x407003_16 x407004_44 0 0 0 = some (r1, r2, r3, r4, r5, r6, r7, r8, r9)) ∧ Aside0 (kq ≤ kj35) ∧ Aside0 (wc.heap[gb400]? = some (.cells #[.bool false, .bool false, .int .i64 0, .int .i64 0, .int .i64 0, .int .i64 0, .int .i64 0, .int .u64 0] 131 (0, 0))) ∧ Aside0 (wc.heap[gb406]? = some (.cells #[.bool ((bt t404 0) == 49), .bool ((bt t403 0) == 49), .int .i64 t405, .int .i64 x407003_16, .int .i64 x407004_44, .int .i64 0, .int .i64 0, .int .u64 0] 131 (0, 0))) ∧ Aside0 (Below w.heap.size w wc))
          case first =>
           have H := HC45.out
           clear HC45
           by_cases c48 : (x10_35.size : Int) > 2
           ·rw [if_pos c48] at H
            have c48b0 : decide (2 < (x10_35.size : Int)) = true := decide_eq_true c48
            have c48b1 : decide (2 < x10_35.size) = true := decide_eq_true (by omega)
            clear c48
            (first | rw [c48b0] | (simp only [i64_w, i32_w]; rw [c48b0]) | rw [c48b1] | skip)
            have H' := Aside0.mk H
            clear H
            have hnb49 := NB406_400.out
            have hnc49 := NB400_406.out
            obtain ⟨z50_0, z50_1, z50_2, z50_3, z50_4, z50_5, z50_6, z50_7, y50_0, y50_1, y50_2, y50_3, y50_4, y50_5, y50_6, y50_7⟩ := cz8 BK406
            go_wp2
            go_meet
            case rel => exact ⟨_, (2), H', ⟨by have := HJ3.out; have := HJ16.out; have := HJ35.out; first | omega | exact Nat.le_refl _⟩, ⟨bkT BK400⟩, ⟨bkT BK406⟩, ⟨hbT⟩⟩
           ·rw [if_neg c48] at H
            have c48b0 : decide (2 < (x10_35.size : Int)) = false := decide_eq_false c48
            have c48b1 : decide (2 < x10_35.size) = false := decide_eq_false (by omega)
            clear c48
            (first | rw [c48b0] | (simp only [i64_w, i32_w]; rw [c48b0]) | rw [c48b1] | skip)
            have H' := Aside0.mk H
            clear H
            go_wp2
            go_meet
            case rel => exact ⟨_, ((x10_35.size : Int)), H', ⟨by have := HJ3.out; have := HJ16.out; have := HJ35.out; first | omega | exact Nat.le_refl _⟩, ⟨bkT BK400⟩, ⟨bkT BK406⟩, ⟨hbT⟩⟩
          case rest =>
           clear HC45
           try clear z47_0 z47_1 z47_2 z47_3 z47_4 z47_5 z47_6 z47_7 y47_0 y47_1 y47_2 y47_3 y47_4 y47_5 y47_6 y47_7
           obtain ⟨kq, x407004_44, HA, HJ44, BK400, BK406, HB⟩ := hcut
           cases kq with
           | zero => exact absurd HA.out (by simp [vernierref06_Split.j3])
           | succ kj44 =>
            have H := HA.out
            clear HA
            simp only [vernierref06_Split.j3] at H
            by_cases c51 : 0 ≤ x407004_44
            ·rw [if_pos c51] at H
             have c51b0 := eq_true c51
             have c51b1 : decide (0 ≤ x407004_44) = true := decide_eq_true c51
             clear c51
             by_cases c52 : x407004_44 ≤ (x10_35.size : Int)
             ·rw [if_pos c52] at H
              have c52b0 := eq_true c52
              have c52b1 : decide (x407004_44 ≤ (x10_35.size : Int)) = true := decide_eq_true c52
              clear c52
              by_cases c53 : (x10_35.extract 0 (x407004_44 : Int).toNat).size + 2 ≤ 9223372036854775807
              ·rw [if_pos c53] at H
               have c53b0 := eq_true c53
               have c53b1 : decide ((x10_35.extract 0 (x407004_44 : Int).toNat).size + 2 ≤ 9223372036854775807) = true := decide_eq_true c53
               try have c53b2 : (9223372036854775807 < (x10_35.extract 0 (x407004_44 : Int).toNat).size + 2) = False := eq_false (Nat.not_lt.2 c53)
               by_cases c54 : 0 ≤ 2
               ·rw [if_pos c54] at H
                have c54b0 := eq_true c54
                have c54b1 : decide (0 ≤ 2) = true := decide_eq_true c54
                clear c54
                by_cases c55 : 2 ≤ (((x10_35.extract 0 (x407004_44 : Int).toNat) ++ (⟨#[48, 48]⟩ : ByteArray)).size : Int)
                ·rw [if_pos c55] at H
                 have c55b0 := eq_true c55
                 have c55b1 : decide (2 ≤ (((x10_35.extract 0 (x407004_44 : Int).toNat) ++ (⟨#[48, 48]⟩ : ByteArray)).size : Int)) = true := decide_eq_true c55
                 replace H := Option.bind_eq_some_iff.mp H
                 obtain ⟨t407, A560, H⟩ := H
                 try dsimp only at H
                 have A56 := Aside0.mk A560
                 clear A560
                 have c57b0 := eq_true (of_decide_eq_true (by first | (with_reducible assumption) | assumption) : 0 ≤ x407004_44)
                 have c58b0 := eq_true (of_decide_eq_true (by first | (with_reducible assumption) | assumption) : x407004_44 ≤ (x10_35.size : Int))
                 replace H := Option.bind_eq_some_iff.mp H
                 obtain ⟨t408, A590, H⟩ := H
                 try dsimp only at H
                 have A59 := Aside0.mk A590
                 clear A590
                 simp only [Option.some.injEq, Prod.mk.injEq] at H
                 obtain ⟨rfl, rfl, rfl, rfl, rfl, rfl, rfl, rfl, rfl⟩ := H
                 have hnb60 := NB406_400.out
                 have hnc60 := NB400_406.out
                 obtain ⟨z61_0, z61_1, z61_2, z61_3, z61_4, z61_5, z61_6, z61_7, y61_0, y61_1, y61_2, y61_3, y61_4, y61_5, y61_6, y61_7⟩ := cz8 BK406
                 have c53b3 : (9223372036854775807 < (x407004_44 : Int).toNat + 2) = False := eq_false (by have hq := c53; have hr := of_decide_eq_true c52b1; simp only [ByteArray.size_extract] at hq; omega)
                 have HS2 := Aside0.mk c55
                 clear c54b0 c54b1 c55 c55b0 c55b1 c57b0 c58b0 c53 c53b0 c53b1 c53b2
                 go_upto_region 16 with (fail)
                 clear c53b3
                 generalize ((x10_35.extract 0 (x407004_44 : Int).toNat) ++ (⟨#[48, 48]⟩ : ByteArray)) = s11 at A56 HS2 ⊢
                 have c55b0 := eq_true HS2.out
                 have c55b1 : decide (2 ≤ (s11.size : Int)) = true := decide_eq_true HS2.out
                 have c55b2 : (2 ≤ s11.size) = True := eq_true (by have hq := HS2.out; omega)
                 clear HS2
                 go_upto_region 19 with (first | ((with_reducible refine gate_callee (f := 109) rfl ?_); refine goesL_ (some 74) rfl rfl Try.func109 (by kernel_rfl) rfl #[.string (s11.extract 0 2)] rfl (by (try simp only [List.map_toArray, List.map_cons, List.map_nil]); first | done | rfl | (simp only [List.length_drop, List.length_take]; rfl)) ?_; (with_reducible refine (vernierref01_Number.calls kj44 (s11.extract 0 2) t407 _ A56.out).mono ?_); rintro e w' ⟨rfl, ⟨nd, rfl⟩⟩; refine ⟨_, rfl, ?_⟩; (try (rw [drewN_self wc]; generalize hq_ : World.drewN wc _ = wc; have n0_ : Aside0 (wc.heap[gb400]? = some (.cells #[.bool false, .bool false, .int .i64 0, .int .i64 0, .int .i64 0, .int .i64 0, .int .i64 0, .int .u64 0] 131 (0, 0))) := ⟨by rw [← hq_]; exact (bkT BK400)⟩; have n1_ : Aside0 (wc.heap[gb406]? = some (.cells #[.bool ((bt t404 0) == 49), .bool ((bt t403 0) == 49), .int .i64 t405, .int .i64 x407003_16, .int .i64 x407004_44, .int .i64 0, .int .i64 0, .int .u64 0] 131 (0, 0))) := ⟨by rw [← hq_]; exact (bkT BK406)⟩; have n2_ : Aside0 (Below w.heap.size w wc) := ⟨by rw [← hq_]; exact hbT⟩; clear BK400 BK406 HB hq_; have BK400 := n0_; have BK406 := n1_; have HB := n2_; clear n0_ n1_ n2_; have hcw_0 : wc.cell? ⟨gb406, 0, none⟩ = some (.bool ((bt t404 0) == 49)) := (blk_cell BK406.out 0).trans rfl; have hfw_0 := blk_frozen BK406.out 0; have hcw_1 : wc.cell? ⟨gb406, 1, none⟩ = some (.bool ((bt t403 0) == 49)) := (blk_cell BK406.out 1).trans rfl; have hfw_1 := blk_frozen BK406.out 1; have hcw_2 : wc.cell? ⟨gb406, 2, none⟩ = some (.int .i64 t405) := (blk_cell BK406.out 2).trans rfl; have hfw_2 := blk_frozen BK406.out 2; have hcw_3 : wc.cell? ⟨gb406, 3, none⟩ = some (.int .i64 x407003_16) := (blk_cell BK406.out 3).trans rfl; have hfw_3 := blk_frozen BK406.out 3; have hcw_4 : wc.cell? ⟨gb406, 4, none⟩ = some (.int .i64 x407004_44) := (blk_cell BK406.out 4).trans rfl; have hfw_4 := blk_frozen BK406.out 4; have hcw_5 : wc.cell? ⟨gb406, 5, none⟩ = some (.int .i64 0) := (blk_cell BK406.out 5).trans rfl; have hfw_5 := blk_frozen BK406.out 5; have hcw_6 : wc.cell? ⟨gb406, 6, none⟩ = some (.int .i64 0) := (blk_cell BK406.out 6).trans rfl; have hfw_6 := blk_frozen BK406.out 6; have hcw_7 : wc.cell? ⟨gb406, 7, none⟩ = some (.int .u64 0) := (blk_cell BK406.out 7).trans rfl; have hfw_7 := blk_frozen BK406.out 7))) | ((with_reducible refine gate_callee (f := 109) rfl ?_); refine goesL_ (some 87) rfl rfl Try.func109 (by kernel_rfl) rfl #[.string (x10_35.extract (x407004_44 : Int).toNat x10_35.size)] rfl (by (try simp only [List.map_toArray, List.map_cons, List.map_nil]); first | done | rfl | (simp only [List.length_drop, List.length_take]; rfl)) ?_; (with_reducible refine (vernierref01_Number.calls kj44 (x10_35.extract (x407004_44 : Int).toNat x10_35.size) t408 _ A59.out).mono ?_); rintro e w' ⟨rfl, ⟨nd, rfl⟩⟩; refine ⟨_, rfl, ?_⟩))
                 refine world_as (Q := fun wx => Aside0 (wx.heap[gb400]? = some (.cells #[.bool false, .bool false, .int .i64 0, .int .i64 0, .int .i64 0, .int .i64 0, .int .i64 0, .int .u64 0] 131 (0, 0))) ∧ Aside0 (wx.heap[gb406]? = some (.cells #[.bool ((bt t404 0) == 49), .bool ((bt t403 0) == 49), .int .i64 t405, .int .i64 x407003_16, .int .i64 x407004_44, .int .i64 (wrap64 (t407)), .int .i64 (wrap64 ((x10_35.size : Int) - x407004_44)), .int .u64 t408] 131 (0, 0))) ∧ Aside0 (Below w.heap.size w wx)) ⟨⟨bkT BK400⟩, ⟨bkT BK406⟩, ⟨hbT⟩⟩ ?_
                 clear BK400 BK406 HB
                 rintro w24 ⟨BK400, BK406, HB⟩
                 have hcy_0 : w24.cell? ⟨gb406, 0, none⟩ = some (.bool ((bt t404 0) == 49)) := (blk_cell BK406.out 0).trans rfl
                 have hcx_0 : w24.cell? ⟨gb400, 0, none⟩ = some (.bool false) := (blk_cell BK400.out 0).trans rfl
                 have hfy_0 := blk_frozen BK406.out 0
                 have hfx_0 := blk_frozen BK400.out 0
                 have hcy_1 : w24.cell? ⟨gb406, 1, none⟩ = some (.bool ((bt t403 0) == 49)) := (blk_cell BK406.out 1).trans rfl
                 have hcx_1 : w24.cell? ⟨gb400, 1, none⟩ = some (.bool false) := (blk_cell BK400.out 1).trans rfl
                 have hfy_1 := blk_frozen BK406.out 1
                 have hfx_1 := blk_frozen BK400.out 1
                 have hcy_2 : w24.cell? ⟨gb406, 2, none⟩ = some (.int .i64 t405) := (blk_cell BK406.out 2).trans rfl
                 have hcx_2 : w24.cell? ⟨gb400, 2, none⟩ = some (.int .i64 0) := (blk_cell BK400.out 2).trans rfl
                 have hfy_2 := blk_frozen BK406.out 2
                 have hfx_2 := blk_frozen BK400.out 2
                 have hcy_3 : w24.cell? ⟨gb406, 3, none⟩ = some (.int .i64 x407003_16) := (blk_cell BK406.out 3).trans rfl
                 have hcx_3 : w24.cell? ⟨gb400, 3, none⟩ = some (.int .i64 0) := (blk_cell BK400.out 3).trans rfl
                 have hfy_3 := blk_frozen BK406.out 3
                 have hfx_3 := blk_frozen BK400.out 3
                 have hcy_4 : w24.cell? ⟨gb406, 4, none⟩ = some (.int .i64 x407004_44) := (blk_cell BK406.out 4).trans rfl
                 have hcx_4 : w24.cell? ⟨gb400, 4, none⟩ = some (.int .i64 0) := (blk_cell BK400.out 4).trans rfl
                 have hfy_4 := blk_frozen BK406.out 4
                 have hfx_4 := blk_frozen BK400.out 4
                 have hcy_5 : w24.cell? ⟨gb406, 5, none⟩ = some (.int .i64 (wrap64 (t407))) := (blk_cell BK406.out 5).trans rfl
                 have hcx_5 : w24.cell? ⟨gb400, 5, none⟩ = some (.int .i64 0) := (blk_cell BK400.out 5).trans rfl
                 have hfy_5 := blk_frozen BK406.out 5
                 have hfx_5 := blk_frozen BK400.out 5
                 have hcy_6 : w24.cell? ⟨gb406, 6, none⟩ = some (.int .i64 (wrap64 ((x10_35.size : Int) - x407004_44))) := (blk_cell BK406.out 6).trans rfl
                 have hcx_6 : w24.cell? ⟨gb400, 6, none⟩ = some (.int .i64 0) := (blk_cell BK400.out 6).trans rfl
                 have hfy_6 := blk_frozen BK406.out 6
                 have hfx_6 := blk_frozen BK400.out 6
                 have hcy_7 : w24.cell? ⟨gb406, 7, none⟩ = some (.int .u64 t408) := (blk_cell BK406.out 7).trans rfl
                 have hcx_7 : w24.cell? ⟨gb400, 7, none⟩ = some (.int .u64 0) := (blk_cell BK400.out 7).trans rfl
                 have hfy_7 := blk_frozen BK406.out 7
                 have hfx_7 := blk_frozen BK400.out 7
                 go_wp2
                 refine bodyPost_ret (results_ct rfl _ _ gb400 131 #[.bool ((bt t404 0) == 49), .bool ((bt t403 0) == 49), .int .i64 t405, .int .i64 x407003_16, .int .i64 x407004_44, .int .i64 (wrap64 (t407)), .int .i64 (wrap64 ((x10_35.size : Int) - x407004_44)), .int .u64 t408] (0, 0) _ rfl (bkT BK400) Try.underlying131 rfl (by kernel_rfl)) rfl ?_
                 exact ⟨reT, hbT⟩
                ·rw [if_neg c55] at H
                 exact absurd H (by simp)
               ·rw [if_neg c54] at H
                exact absurd H (by simp)
              ·rw [if_neg c53] at H
               exact absurd H (by simp)
             ·rw [if_neg c52] at H
              exact absurd H (by simp)
            ·rw [if_neg c51] at H
             exact absurd H (by simp)
     ·rw [if_neg c14] at H
      exact absurd H (by simp)
    ·rw [if_neg c12] at H
     exact absurd H (by simp)
end Go.Proofs.Ytnlbfomlfhigcaa.Q
