/- Walks and plain laws that the claim stands on: each theorem named calls says that a call of a function returns what its f computes; the others are plain laws of these f, and the words that the walks use. -/
import Derived.Test.YtnlbfomlfhigcaaTopRisesV2
import Derived.Test.YtnlbfomlfhigcaaTopRisesV5
namespace Go.Proofs.Ytnlbfomlfhigcaa.Q
open Go.RowKit Go.Proofs.YtnlbfomlfhigcaaW.PrintWords Go.Proofs.YtnlbfomlfhigcaaW.PrintLast Go.Proofs.YtnlbfomlfhigcaaW.PrintMore
attribute [local go_sem] max2_int min2_int max_two min_two max_three min_three max_four min_four
set_option linter.unusedVariables false
set_option linter.unusedSimpArgs false
attribute [local go_sem high] eqA155
def twin_Shr.f (a0_0 : Int) (a0_1 : Int) (a1 : Int) : Option (Int × Int × Bool × Option Int) := if a1 < 0 then (some (0, 0, false, some 1)) else ((twin_shr.f a0_0 a0_1 (mn a1 128)).bind fun bt161 => ((twin_shl.f bt161.1 bt161.2 (mn a1 128)).bind fun bt164 => (some (bt161.1, bt161.2, (!(bt164.1 == a0_0) || (!(bt164.2 == a0_1))), none))))
def twin_Shr.T5 : Bool × List (List Nat × List Nat) := (true, [([], []), ([], []), ([], []), ([1, 2], [1, 2]), ([], []), ([3, 4], [3, 4]), ([0, 3, 0], [0]), ([5, 6, 0, 1, 2, 3, 4, 5, 6], [5]), ([7, 0, 1, 2, 3, 4, 5, 6, 7], [])])
def twin_Shr.B5 : List Nat := [0, 0, 0, 6, 0, 30, 15, 127, 255]
theorem twin_Shr.tab5 : rtab .any (opsOf Try.f156 5) = twin_Shr.T5 := by kernel_rfl
theorem twin_Shr.bits5 : waitsOk twin_Shr.T5.2 twin_Shr.B5 = true := by kernel_rfl
set_option maxHeartbeats 8000000 in
set_option maxRecDepth 100000 in
theorem twin_Shr.calls (a0_0 : Int) (a0_1 : Int) (a1 : Int) (r1 : Int) (r2 : Int) (r3 : Bool) (r4 : Option Int) (w : World) (h : twin_Shr.f a0_0 a0_1 a1 = some (r1, r2, r3, r4)) :
  Calls Try.prog 156 #[.agg #[.int .u64 a0_0, .int .u64 a0_1], .int .i64 a1] w fun e w' => e = .returned (.tuple #[.agg #[.int .u64 r1, .int .u64 r2], .bool r3, errW r4]) ∧ Below w.heap.size w w' := by
 have hu155 := Try.underlying155
 have hu43 := Try.underlying43
 have hu82 := Try.underlying82
 have HB := Aside0.mk (Below.refl w.heap.size w)
 have H := h
 clear h
 unfold twin_Shr.f at H
 by_cases c3 : a1 < 0
 ·rw [if_pos c3] at H
  have c3b0 : decide (a1 < 0) = true := decide_eq_true c3
  clear c3
  simp only [Option.some.injEq, Prod.mk.injEq] at H
  obtain ⟨rfl, rfl, rfl, rfl⟩ := H
  go_enter Try.func156, Try.ntmps156
  go_wp2_with (first | ((with_reducible refine gate_dst (N := 2) rfl ?_); refine boxA 2 (#[.int .u64 a0_0, .int .u64 a0_1]) 155 ?_; intro gb159 hg w4 BK159 hb; have GW159 := geT hg; have GE159 := GW159; replace HB := hbS hb; clear hb hg) | ((with_reducible refine gate_dst (N := 4) rfl ?_); refine boxA 4 (#[.int .u64 0, .int .u64 0]) 155 ?_; intro gb160 hg w5 BK160 hb; have GW160 := geT hg; have GE160 := GW160; obtain ⟨NB159_160, NB160_159⟩ := neT BK159 hg; replace BK159 := bkB BK159 hb; replace HB := hbS hb; clear hb hg; have hnb6 := NB160_159.out; have hnc6 := NB159_160.out; obtain ⟨z7_0, z7_1, y7_0, y7_1⟩ := cz2 BK160))
  refine bodyPost_ret (results_ctt rfl _ _ gb160 155 #[.int .u64 0, .int .u64 0] (0, 0) _ rfl (bkT BK160) Try.underlying155 rfl (by kernel_rfl)) rfl ?_
  exact ⟨reT, hbT⟩
 ·rw [if_neg c3] at H
  have c3b0 : decide (a1 < 0) = false := decide_eq_false c3
  clear c3
  obtain ⟨ji8, hji8⟩ : ∃ j_ : Int, (mn a1 128) = j_ := ⟨_, rfl⟩
  replace H : ((twin_shr.f a0_0 a0_1 (ji8)).bind fun bt161 => ((twin_shl.f bt161.1 bt161.2 (ji8)).bind fun bt164 => (some (bt161.1, bt161.2, (!(bt164.1 == a0_0) || (!(bt164.2 == a0_1))), none)))) = some (r1, r2, r3, r4) := by first | (rw [hji8] at H; exact H) | (simp only [hji8] at H ⊢; exact H)
  (try (have hji8h : ji8 ≤ 128 := by (rw [← hji8]; unfold mn; (repeat' split) <;> omega)))
  (try (have hji8g : ji8 ≤ 64 := by omega))
  have hji8_ : (if 128 < a1 then 128 else a1) = ji8 := hji8
  replace H := Option.bind_eq_some_iff.mp H
  obtain ⟨⟨t161, t162⟩, A90, H⟩ := H
  try dsimp only at H
  have A9 := Aside0.mk A90
  clear A90
  replace H := Option.bind_eq_some_iff.mp H
  obtain ⟨⟨t164, t165⟩, A100, H⟩ := H
  try dsimp only at H
  have A10 := Aside0.mk A100
  clear A100
  simp only [Option.some.injEq, Prod.mk.injEq] at H
  obtain ⟨rfl, rfl, rfl, rfl⟩ := H
  go_enter Try.func156, Try.ntmps156
  try go_wp2_with (first | ((with_reducible refine gate_dst (N := 2) rfl ?_); refine boxA 2 (#[.int .u64 a0_0, .int .u64 a0_1]) 155 ?_; intro gb159 hg w11 BK159 hb; have GW159 := geT hg; have GE159 := GW159; replace HB := hbS hb; clear hb hg) | ((with_reducible refine gate_dst (N := 4) rfl ?_); refine boxA 4 (#[.int .u64 0, .int .u64 0]) 155 ?_; intro gb160 hg w12 BK160 hb; have GW160 := geT hg; have GE160 := GW160; obtain ⟨NB159_160, NB160_159⟩ := neT BK159 hg; replace BK159 := bkB BK159 hb; replace HB := hbS hb; clear hb hg; have hnb13 := NB159_160.out; have hnc13 := NB160_159.out; obtain ⟨z14_0, z14_1, y14_0, y14_1⟩ := cz2 BK159) | ((with_reducible refine gate_callee (f := 166) rfl ?_); refine goesL_ (some 16) rfl rfl Try.func166 (by kernel_rfl) rfl #[.agg #[.int .u64 a0_0, .int .u64 a0_1], .int .i64 ji8] rfl (by (try simp only [List.map_toArray, List.map_cons, List.map_nil]); first | done | (simp only [hji8]; rfl) | rfl | (simp only [List.length_drop, List.length_take]; rfl)) ?_; (with_reducible refine (twin_shr.calls a0_0 a0_1 ji8 t161 t162 _ A9.out).mono ?_); rintro e w15 ⟨rfl, hb⟩; refine ⟨_, rfl, ?_⟩; replace BK159 := bkB BK159 hb; replace BK160 := bkB BK160 hb; replace HB := hbS hb; (try clear hb); (try clear hb2); (try clear hk); (try clear hi)) | ((with_reducible refine gate_dst (N := 7) rfl ?_); refine boxA 7 (#[.int .u64 0, .int .u64 0]) 155 ?_; intro gb163 hg w16 BK163 hb; have GW163 := geT hg; have GE163 := GW163; obtain ⟨NB159_163, NB163_159⟩ := neT BK159 hg; obtain ⟨NB160_163, NB163_160⟩ := neT BK160 hg; replace BK159 := bkB BK159 hb; replace BK160 := bkB BK160 hb; replace HB := hbS hb; clear hb hg; have hnb17 := NB163_159.out; have hnc17 := NB159_163.out; have hnb18 := NB163_160.out; have hnc18 := NB160_163.out; obtain ⟨z19_0, z19_1, y19_0, y19_1⟩ := cz2 BK163))
  have n0_ : Aside0 (((w16.setCell ⟨gb163, 0, none⟩ (.int .u64 t161)).setCell ⟨gb163, 1, none⟩ (.int .u64 t162)).heap[gb159]? = some (.cells #[.int .u64 a0_0, .int .u64 a0_1] 155 (0, 0))) := ⟨bkT BK159⟩
  have n1_ : Aside0 (((w16.setCell ⟨gb163, 0, none⟩ (.int .u64 t161)).setCell ⟨gb163, 1, none⟩ (.int .u64 t162)).heap[gb160]? = some (.cells #[.int .u64 0, .int .u64 0] 155 (0, 0))) := ⟨bkT BK160⟩
  have n2_ : Aside0 (((w16.setCell ⟨gb163, 0, none⟩ (.int .u64 t161)).setCell ⟨gb163, 1, none⟩ (.int .u64 t162)).heap[gb163]? = some (.cells #[.int .u64 t161, .int .u64 t162] 155 (0, 0))) := ⟨bkT BK163⟩
  have n3_ : Aside0 (Below w.heap.size w ((w16.setCell ⟨gb163, 0, none⟩ (.int .u64 t161)).setCell ⟨gb163, 1, none⟩ (.int .u64 t162))) := ⟨hbT⟩
  (try clear BK159)
  (try clear BK160)
  (try clear BK163)
  (try clear HB)
  generalize ((w16.setCell ⟨gb163, 0, none⟩ (.int .u64 t161)).setCell ⟨gb163, 1, none⟩ (.int .u64 t162)) = w20 at n0_ n1_ n2_ n3_ ⊢
  have BK159 := n0_
  have BK160 := n1_
  have BK163 := n2_
  have HB := n3_
  clear n0_ n1_ n2_ n3_
  have n0_ := Aside0.mk (blk_drew BK159.out)
  have n1_ := Aside0.mk (blk_drew BK160.out)
  have n2_ := Aside0.mk (blk_drew BK163.out)
  have n3_ := Aside0.mk (below_drew1 HB.out)
  clear BK159
  clear BK160
  clear BK163
  clear HB
  have BK159 := n0_
  have BK160 := n1_
  have BK163 := n2_
  have HB := n3_
  clear n0_ n1_ n2_ n3_
  refine start_ (n := 9) (S := fun w' => w'.cell? ⟨gb163, 0, none⟩ = some (.int .u64 t161) ∧ w'.cell? ⟨gb163, 1, none⟩ = some (.int .u64 t162) ∧ w'.cell? ⟨gb159, 0, none⟩ = some (.int .u64 a0_0) ∧ w'.cell? ⟨gb159, 1, none⟩ = some (.int .u64 a0_1)) (ds := []) #[false, false, false, false, false, false, false, false, false] (by kernel_rfl) rfl rfl ⟨(blk_cell BK163.out 0).trans rfl, (blk_cell BK163.out 1).trans rfl, (blk_cell BK159.out 0).trans rfl, (blk_cell BK159.out 1).trans rfl⟩ (fun hHeld => ?_); refine with_tabW twin_Shr.tab5 twin_Shr.bits5 (fun HT_ HW_ => ?_)
  generalize w20.drew = w21 at BK159 BK160 BK163 HB hHeld ⊢
  refine pure_ (i := 2) (N := some 19) (v := ?_) (a' := ?_) #[false, false, true, false, false, false, false, false, false] rfl rfl (any_of HT_.out (by kernel_rfl)) (fun _ _ _ h => h) (Or.inl ⟨by rfl, ?_⟩) ?_ ?_
  rotate_left
  ·intro w'
   go_simp
   with_reducible rfl
  rotate_left
  ·simp only [Act.put, List.setIfInBounds_toArray, List.set_cons_zero, List.set_cons_succ, i64_w, i32_w]
   rfl
  refine take_ (i := 0) (N := some 17) (v := ?_) (a' := ?_) #[true, false, true, false, false, false, false, false, false] rfl rfl (take_ofW HT_.out HW_.out (by kernel_rfl)) (fun _ _ _ h => h) (Or.inl ⟨by rfl, ?_⟩) hHeld ?_ ?_
  rotate_left
  ·rintro w' ⟨s0, s1, s2, s3⟩
   go_simp
   with_reducible rfl
  rotate_left
  ·simp only [Act.put, List.setIfInBounds_toArray, List.set_cons_zero, List.set_cons_succ, i64_w, i32_w]
   rfl
  refine take_ (i := 1) (N := some 18) (v := ?_) (a' := ?_) #[true, true, true, false, false, false, false, false, false] rfl rfl (take_ofW HT_.out HW_.out (by kernel_rfl)) (fun _ _ _ h => h) (Or.inl ⟨by rfl, ?_⟩) hHeld ?_ ?_
  rotate_left
  ·rintro w' ⟨s0, s1, s2, s3⟩
   go_simp
   with_reducible rfl
  rotate_left
  ·simp only [Act.put, List.setIfInBounds_toArray, List.set_cons_zero, List.set_cons_succ, i64_w, i32_w]
   rfl
  refine take_ (i := 4) (N := some 21) (v := ?_) (a' := ?_) #[true, true, true, false, true, false, false, false, false] rfl rfl (take_ofW HT_.out HW_.out (by kernel_rfl)) (fun _ _ _ h => h) (Or.inl ⟨by rfl, ?_⟩) hHeld ?_ ?_
  rotate_left
  ·rintro w' ⟨s0, s1, s2, s3⟩
   go_simp
   with_reducible rfl
  rotate_left
  ·simp only [Act.put, List.setIfInBounds_toArray, List.set_cons_zero, List.set_cons_succ, i64_w, i32_w]
   rfl
  refine one_ (i := 3) (N := some 20) #[true, true, true, true, true, false, false, false, false] rfl rfl (one_of HT_.out (by kernel_rfl)) (by decide) (fun K hK => ?_)
  refine goes_ Try.func154 (by kernel_rfl) rfl #[.agg #[.int .u64 t161, .int .u64 t162], .int .i64 ji8] (by rfl) rfl rfl (by (try simp only [List.map_toArray, List.map_cons, List.map_nil]); first | done | (simp only [hji8]; rfl) | rfl | (simp only [List.length_drop, List.length_take]; rfl)) ?_
  with_reducible refine (twin_shl.calls t161 t162 ji8 t164 t165 _ A10.out).mono ?_
  rintro e w22 ⟨rfl, hb⟩
  refine ⟨_, rfl, ?_⟩
  have n0_ := bkB BK159 hb
  have n1_ := bkB BK160 hb
  have n2_ := bkB BK163 hb
  have n3_ := hbS hb
  clear BK159
  clear BK160
  clear BK163
  clear HB
  have BK159 := n0_
  have BK160 := n1_
  have BK163 := n2_
  have HB := n3_
  clear n0_ n1_ n2_ n3_
  (try clear hb)
  (try clear hb2)
  (try clear hk)
  (try clear hi)
  refine hK.out _ _ ⟨(blk_cell BK163.out 0).trans rfl, (blk_cell BK163.out 1).trans rfl, (blk_cell BK159.out 0).trans rfl, (blk_cell BK159.out 1).trans rfl⟩ (fun hHeld => ?_)
  clear hK K
  refine norm_ (a' := ?_) ?_ ?_
  rotate_left
  ·show Act.put _ (some 20) _ = _
   simp only [Act.put, List.setIfInBounds_toArray, List.set_cons_zero, List.set_cons_succ, i64_w, i32_w]
   rfl
  refine pure_ (i := 5) (N := some 22) (v := ?_) (a' := ?_) #[true, true, true, true, true, true, false, false, false] rfl rfl (any_of HT_.out (by kernel_rfl)) (fun _ _ _ h => h) (Or.inl ⟨by rfl, ?_⟩) ?_ ?_
  rotate_left
  ·intro w'
   go_simp
   with_reducible rfl
  rotate_left
  ·simp only [Act.put, List.setIfInBounds_toArray, List.set_cons_zero, List.set_cons_succ, i64_w, i32_w]
   rfl
  refine one_ (i := 6) (N := none) #[true, true, true, true, true, true, true, false, false] rfl rfl (one_of HT_.out (by kernel_rfl)) (by decide) (fun K hK => ?_)
  have hs23 : w22.cell? ⟨gb160, 0, none⟩ = some (.int .u64 0) := (blk_cell BK160.out 0).trans rfl
  have hfs23 := blk_frozen BK160.out 0
  have hns23_0 := NB159_160.out
  have hns23_2 := NB163_160.out
  have hms23_0 := NB160_159.out
  have hms23_2 := NB160_163.out
  have hs24 : w22.cell? ⟨gb160, 1, none⟩ = some (.int .u64 0) := (blk_cell BK160.out 1).trans rfl
  have hfs24 := blk_frozen BK160.out 1
  have hns24_0 := NB159_160.out
  have hns24_2 := NB163_160.out
  have hms24_0 := NB160_159.out
  have hms24_2 := NB160_163.out
  refine skip_ (w1 := ?_) (by rfl) rfl ?_ ?_
  rotate_left
  ·go_simp
   rfl
  refine hK.out _ _ ⟨((cell_far (p := ⟨gb160, _, none⟩) NB163_160.out _).trans (((cell_far (p := ⟨gb160, _, none⟩) NB163_160.out _).trans (hHeld.1)))), ((cell_far (p := ⟨gb160, _, none⟩) NB163_160.out _).trans (((cell_far (p := ⟨gb160, _, none⟩) NB163_160.out _).trans (hHeld.2.1)))), ((cell_far (p := ⟨gb160, _, none⟩) NB159_160.out _).trans (((cell_far (p := ⟨gb160, _, none⟩) NB159_160.out _).trans (hHeld.2.2.1)))), ((cell_far (p := ⟨gb160, _, none⟩) NB159_160.out _).trans (((cell_far (p := ⟨gb160, _, none⟩) NB159_160.out _).trans (hHeld.2.2.2))))⟩ (fun hHeld => ?_)
  clear hK K
  refine pure_ (i := 7) (N := some 5) (v := ?_) (a' := ?_) #[true, true, true, true, true, true, true, true, false] rfl rfl (any_of HT_.out (by kernel_rfl)) (fun _ _ _ h => h) (Or.inl ⟨by rfl, ?_⟩) ?_ ?_
  rotate_left
  ·intro w'
   go_simp
   with_reducible rfl
  rotate_left
  ·simp only [Act.put, List.setIfInBounds_toArray, List.set_cons_zero, List.set_cons_succ, i64_w, i32_w]
   rfl
  refine pure_ (i := 8) (N := some 6) (v := ?_) (a' := ?_) #[true, true, true, true, true, true, true, true, true] rfl rfl (any_of HT_.out (by kernel_rfl)) (fun _ _ _ h => h) (Or.inl ⟨by rfl, ?_⟩) ?_ ?_
  rotate_left
  ·intro w'
   go_simp
   with_reducible rfl
  rotate_left
  ·simp only [Act.put, List.setIfInBounds_toArray, List.set_cons_zero, List.set_cons_succ, i64_w, i32_w]
   rfl
  refine done_ (done_of HT_.out (by kernel_rfl)) ?_
  try go_wp2
  refine bodyPost_ret (results_ctt rfl _ _ gb160 155 #[.int .u64 t161, .int .u64 t162] (0, 0) _ rfl (bkT BK160) Try.underlying155 rfl (by kernel_rfl)) rfl ?_
  exact ⟨by first | rfl | (simp [errW_none, errW_some] <;> rfl) | (simp only [← hji8]; first | rfl | (simp [errW_none, errW_some] <;> rfl)) | (simp [*, errW_none, errW_some] <;> rfl), hbT⟩
end Go.Proofs.Ytnlbfomlfhigcaa.Q
namespace Go.Proofs.Ytnlbfomlfhigcaa.Q
open Go.RowKit Go.Proofs.YtnlbfomlfhigcaaW.PrintWords Go.Proofs.YtnlbfomlfhigcaaW.PrintLast Go.Proofs.YtnlbfomlfhigcaaW.PrintMore
attribute [local go_sem] max2_int min2_int max_two min_two max_three min_three max_four min_four
set_option linter.unusedVariables false
set_option linter.unusedSimpArgs false
def round_under.f (a0_0 : Int) (a0_1 : Int) (a1 : Int) (a2 : Int) (a3 : Bool) : Option (Int × Int × Bool) := (twin_Shr.f a0_0 a0_1 a2).bind fun bt168 => (if 0 ≤ (wrap64 (64 - a2)) then (if a3 = true then (some (Go.bits .or .u64 bt168.1 (shl .u64 a1 (wrap64 (64 - a2))), bt168.2.1, true)) else (some (Go.bits .or .u64 bt168.1 (shl .u64 a1 (wrap64 (64 - a2))), bt168.2.1, bt168.2.2.1))) else (none))
def round_under.T2 : Bool × List (List Nat × List Nat) := (true, [([], []), ([0], [0]), ([], []), ([], []), ([3], [3]), ([2, 4], [2, 4]), ([1, 5], [1, 5]), ([0, 1, 2, 3, 4, 5, 6], []), ([7, 6, 0, 1, 2, 3, 4, 5, 6], [6, 7])])
def round_under.B2 : List Nat := [0, 1, 0, 0, 8, 28, 63, 127, 255]
theorem round_under.tab2 : rtab .any (opsOf Try.f126 2) = round_under.T2 := by kernel_rfl
theorem round_under.bits2 : waitsOk round_under.T2.2 round_under.B2 = true := by kernel_rfl
set_option maxHeartbeats 8000000 in
set_option maxRecDepth 100000 in
theorem round_under.calls (a0_0 : Int) (a0_1 : Int) (a1 : Int) (a2 : Int) (a3 : Bool) (r1 : Int) (r2 : Int) (r3 : Bool) (w : World) (h : round_under.f a0_0 a0_1 a1 a2 a3 = some (r1, r2, r3)) :
  Calls Try.prog 126 #[.agg #[.int .u64 a0_0, .int .u64 a0_1], .int .u64 a1, .int .i64 a2, .bool a3] w fun e w' => e = .returned (.tuple #[.agg #[.int .u64 r1, .int .u64 r2], .bool r3]) ∧ Below w.heap.size w w' := by
 have hu155 := Try.underlying155
 have HB := Aside0.mk (Below.refl w.heap.size w)
 have H := h
 clear h
 unfold round_under.f at H
 replace H := Option.bind_eq_some_iff.mp H
 obtain ⟨⟨t168, t169, t170, t171⟩, A50, H⟩ := H
 try dsimp only at H
 have A5 := Aside0.mk A50
 clear A50
 obtain ⟨ji6, hji6⟩ : ∃ j_ : Int, (wrap64 (64 - a2)) = j_ := ⟨_, rfl⟩
 replace H : (if 0 ≤ (ji6) then (if a3 = true then (some (Go.bits .or .u64 t168 (shl .u64 a1 (ji6)), t169, true)) else (some (Go.bits .or .u64 t168 (shl .u64 a1 (ji6)), t169, t170))) else (none)) = some (r1, r2, r3) := by first | (rw [hji6] at H; exact H) | (simp only [hji6] at H ⊢; exact H)
 (try rw [hji6] at A5)
 have hji6w : (IntKind.i64.wrap (64 - a2)) = ji6 := (i64_w _).trans hji6
 by_cases c7 : 0 ≤ (ji6)
 ·rw [if_pos c7] at H
  have c7b0 := eq_true c7
  have c7b1 : decide (0 ≤ (ji6)) = true := decide_eq_true c7
  clear c7
  obtain ⟨ji8, hji8⟩ : ∃ j_ : Int, (shl .u64 a1 (ji6)) = j_ := ⟨_, rfl⟩
  replace H : (if a3 = true then (some (Go.bits .or .u64 t168 (ji8), t169, true)) else (some (Go.bits .or .u64 t168 (ji8), t169, t170))) = some (r1, r2, r3) := by first | (rw [hji8] at H; exact H) | (simp only [hji8] at H ⊢; exact H)
  (try rw [hji8] at A5)
  have hji8_ : (IntKind.u64.wrap (a1 * 2 ^ min (ji6).toNat 64)) = ji8 := hji8
  have hji8z : (ji6) ≤ 64 → (IntKind.u64.wrap (a1 * 2 ^ (ji6).toNat)) = ji8 := shl_small hji8
  by_cases c9 : a3 = true
  ·subst c9
   rw [if_pos rfl] at H
   simp only [Option.some.injEq, Prod.mk.injEq] at H
   obtain ⟨rfl, rfl, rfl⟩ := H
   go_enter Try.func126, Try.ntmps126
   try go_wp2_with (first | ((with_reducible refine gate_dst (N := 4) rfl ?_); refine boxA 4 (#[.int .u64 a0_0, .int .u64 a0_1]) 155 ?_; intro gb166 hg w10 BK166 hb; have GW166 := geT hg; have GE166 := GW166; replace HB := hbS hb; clear hb hg) | ((with_reducible refine gate_dst (N := 8) rfl ?_); refine boxA 8 (#[.int .u64 0, .int .u64 0]) 155 ?_; intro gb167 hg w11 BK167 hb; have GW167 := geT hg; have GE167 := GW167; obtain ⟨NB166_167, NB167_166⟩ := neT BK166 hg; replace BK166 := bkB BK166 hb; replace HB := hbS hb; clear hb hg; have hnb12 := NB166_167.out; have hnc12 := NB167_166.out; obtain ⟨z13_0, z13_1, y13_0, y13_1⟩ := cz2 BK166) | ((with_reducible refine gate_callee (f := 156) rfl ?_); refine goA (some 16) Try.func156 (twin_Shr.calls a0_0 a0_1 a2 t168 t169 t170 t171 _ A5.out) ?_; intro w14 hb; replace BK166 := bkB BK166 hb; replace BK167 := bkB BK167 hb; replace HB := hbS hb; clear hb; (try simp only [errW_none, errW_some])) | ((with_reducible refine gate_dst (N := 10) rfl ?_); refine boxA 10 (#[.int .u64 0, .int .u64 0]) 155 ?_; intro gb172 hg w15 BK172 hb; have GW172 := geT hg; have GE172 := GW172; obtain ⟨NB166_172, NB172_166⟩ := neT BK166 hg; obtain ⟨NB167_172, NB172_167⟩ := neT BK167 hg; replace BK166 := bkB BK166 hb; replace BK167 := bkB BK167 hb; replace HB := hbS hb; clear hb hg; have hnb16 := NB172_166.out; have hnc16 := NB166_172.out; have hnb17 := NB172_167.out; have hnc17 := NB167_172.out; obtain ⟨z18_0, z18_1, y18_0, y18_1⟩ := cz2 BK172))
   have n0_ : Aside0 (((w15.setCell ⟨gb172, 0, none⟩ (.int .u64 t168)).setCell ⟨gb172, 1, none⟩ (.int .u64 t169)).heap[gb166]? = some (.cells #[.int .u64 a0_0, .int .u64 a0_1] 155 (0, 0))) := ⟨bkT BK166⟩
   have n1_ : Aside0 (((w15.setCell ⟨gb172, 0, none⟩ (.int .u64 t168)).setCell ⟨gb172, 1, none⟩ (.int .u64 t169)).heap[gb167]? = some (.cells #[.int .u64 0, .int .u64 0] 155 (0, 0))) := ⟨bkT BK167⟩
   have n2_ : Aside0 (((w15.setCell ⟨gb172, 0, none⟩ (.int .u64 t168)).setCell ⟨gb172, 1, none⟩ (.int .u64 t169)).heap[gb172]? = some (.cells #[.int .u64 t168, .int .u64 t169] 155 (0, 0))) := ⟨bkT BK172⟩
   have n3_ : Aside0 (Below w.heap.size w ((w15.setCell ⟨gb172, 0, none⟩ (.int .u64 t168)).setCell ⟨gb172, 1, none⟩ (.int .u64 t169))) := ⟨hbT⟩
   (try clear BK166)
   (try clear BK167)
   (try clear BK172)
   (try clear HB)
   generalize ((w15.setCell ⟨gb172, 0, none⟩ (.int .u64 t168)).setCell ⟨gb172, 1, none⟩ (.int .u64 t169)) = w19 at n0_ n1_ n2_ n3_ ⊢
   have BK166 := n0_
   have BK167 := n1_
   have BK172 := n2_
   have HB := n3_
   clear n0_ n1_ n2_ n3_
   have n0_ := Aside0.mk (blk_drew BK166.out)
   have n1_ := Aside0.mk (blk_drew BK167.out)
   have n2_ := Aside0.mk (blk_drew BK172.out)
   have n3_ := Aside0.mk (below_drew1 HB.out)
   clear BK166
   clear BK167
   clear BK172
   clear HB
   have BK166 := n0_
   have BK167 := n1_
   have BK172 := n2_
   have HB := n3_
   clear n0_ n1_ n2_ n3_
   refine start_ (n := 9) (S := fun w' => w'.cell? ⟨gb172, 0, none⟩ = some (.int .u64 t168) ∧ w'.cell? ⟨gb172, 1, none⟩ = some (.int .u64 t169)) (ds := [8]) #[false, false, false, false, false, false, false, false, false] (by kernel_rfl) rfl rfl ⟨(blk_cell BK172.out 0).trans rfl, (blk_cell BK172.out 1).trans rfl⟩ (fun hHeld => ?_); refine with_tabW round_under.tab2 round_under.bits2 (fun HT_ HW_ => ?_)
   generalize w19.drew = w20 at BK166 BK167 BK172 HB hHeld ⊢
   refine pure_ (i := 0) (N := some 20) (v := ?_) (a' := ?_) #[true, false, false, false, false, false, false, false, false] rfl rfl (any_of HT_.out (by kernel_rfl)) (fun _ _ _ h => h) (Or.inl ⟨by rfl, ?_⟩) ?_ ?_
   rotate_left
   ·intro w'
    go_simp
    with_reducible rfl
   rotate_left
   ·simp only [Act.put, List.setIfInBounds_toArray, List.set_cons_zero, List.set_cons_succ, i64_w, i32_w]
    rfl
   refine pure_ (i := 2) (N := some 22) (v := ?_) (a' := ?_) #[true, false, true, false, false, false, false, false, false] rfl rfl (any_of HT_.out (by kernel_rfl)) (fun _ _ _ h => h) (Or.inl ⟨by rfl, ?_⟩) ?_ ?_
   rotate_left
   ·intro w'
    go_simp
    with_reducible rfl
   rotate_left
   ·simp only [Act.put, List.setIfInBounds_toArray, List.set_cons_zero, List.set_cons_succ, i64_w, i32_w]
    rfl
   refine pure_ (i := 3) (N := some 23) (v := ?_) (a' := ?_) #[true, false, true, true, false, false, false, false, false] rfl rfl (any_of HT_.out (by kernel_rfl)) (fun _ _ _ h => h) (Or.inl ⟨by rfl, ?_⟩) ?_ ?_
   rotate_left
   ·intro w'
    go_simp
    with_reducible rfl
   rotate_left
   ·simp only [Act.put, List.setIfInBounds_toArray, List.set_cons_zero, List.set_cons_succ, i64_w, i32_w]
    rfl
   refine pure_ (i := 4) (N := some 24) (v := ?_) (a' := ?_) #[true, false, true, true, true, false, false, false, false] rfl rfl (any_of HT_.out (by kernel_rfl)) (fun _ _ _ h => h) (Or.inl ⟨by rfl, ?_⟩) ?_ ?_
   rotate_left
   ·intro w'
    go_simp
    with_reducible rfl
   rotate_left
   ·simp only [Act.put, List.setIfInBounds_toArray, List.set_cons_zero, List.set_cons_succ, i64_w, i32_w]
    rfl
   refine pure_ (i := 5) (N := some 25) (v := ?_) (a' := ?_) #[true, false, true, true, true, true, false, false, false] rfl rfl (any_of HT_.out (by kernel_rfl)) (fun _ _ _ h => h) (Or.inl ⟨by rfl, ?_⟩) ?_ ?_
   rotate_left
   ·intro w'
    go_simp
    with_reducible rfl
   rotate_left
   ·simp only [Act.put, List.setIfInBounds_toArray, List.set_cons_zero, List.set_cons_succ, i64_w, i32_w]
    rfl
   refine take_ (i := 1) (N := some 21) (v := ?_) (a' := ?_) #[true, true, true, true, true, true, false, false, false] rfl rfl (take_ofW HT_.out HW_.out (by kernel_rfl)) (fun _ _ _ h => h) (Or.inl ⟨by rfl, ?_⟩) hHeld ?_ ?_
   rotate_left
   ·rintro w' ⟨s0, s1⟩
    go_simp
    with_reducible rfl
   rotate_left
   ·simp only [Act.put, List.setIfInBounds_toArray, List.set_cons_zero, List.set_cons_succ, i64_w, i32_w]
    rfl
   refine pure_ (i := 6) (N := some 26) (v := ?_) (a' := ?_) #[true, true, true, true, true, true, true, false, false] rfl rfl (any_of HT_.out (by kernel_rfl)) (fun _ _ _ h => h) (Or.inl ⟨by rfl, ?_⟩) ?_ ?_
   rotate_left
   ·intro w'
    go_simp
    with_reducible rfl
   rotate_left
   ·simp only [Act.put, List.setIfInBounds_toArray, List.set_cons_zero, List.set_cons_succ, i64_w, i32_w]
    rfl
   refine pure_ (i := 7) (N := some 27) (v := ?_) (a' := ?_) #[true, true, true, true, true, true, true, true, false] rfl rfl (any_of HT_.out (by kernel_rfl)) (fun _ _ _ h => h) (Or.inl ⟨by rfl, ?_⟩) ?_ ?_
   rotate_left
   ·intro w'
    go_simp
    with_reducible rfl
   rotate_left
   ·simp only [Act.put, List.setIfInBounds_toArray, List.set_cons_zero, List.set_cons_succ, i64_w, i32_w]
    rfl
   refine last_ (i := 8) (N := none) #[true, true, true, true, true, true, true, true, true] rfl rfl (one_of HT_.out (by kernel_rfl)) (by decide) (fun K hK => ?_)
   have hs21 : w20.cell? ⟨gb172, 0, none⟩ = some (.int .u64 t168) := (blk_cell BK172.out 0).trans rfl
   have hfs21 := blk_frozen BK172.out 0
   have hns21_0 := NB166_172.out
   have hns21_1 := NB167_172.out
   have hms21_0 := NB172_166.out
   have hms21_1 := NB172_167.out
   refine skip_ (w1 := ?_) (by rfl) rfl ?_ ?_
   rotate_left
   ·go_simp
    rfl
   refine hK.out _ _ ?_
   clear hK K
   refine done_ (done_of HT_.out (by kernel_rfl)) ?_
   obtain ⟨z22_0, z22_1, y22_0, y22_1⟩ := cz2 BK172
   obtain ⟨z23_0, z23_1, y23_0, y23_1⟩ := cz2 BK167
   try go_wp2
   refine bodyPost_ret (results_ct rfl _ _ gb167 155 #[.int .u64 (Go.bits .or .u64 t168 (ji8)), .int .u64 t169] (0, 0) _ rfl (bkT BK167) Try.underlying155 rfl (by kernel_rfl)) rfl ?_
   exact ⟨by first | rfl | (simp [errW_none, errW_some] <;> rfl) | (simp only [← hji6, ← hji8]; first | rfl | (simp [errW_none, errW_some] <;> rfl)) | (simp [*, errW_none, errW_some] <;> rfl), hbT⟩
  ·replace c9 := Bool.eq_false_iff.mpr c9
   subst c9
   rw [if_neg (show ¬ (false = true) by decide)] at H
   simp only [Option.some.injEq, Prod.mk.injEq] at H
   obtain ⟨rfl, rfl, rfl⟩ := H
   go_enter Try.func126, Try.ntmps126
   try go_wp2_with (first | ((with_reducible refine gate_dst (N := 4) rfl ?_); refine boxA 4 (#[.int .u64 a0_0, .int .u64 a0_1]) 155 ?_; intro gb166 hg w24 BK166 hb; have GW166 := geT hg; have GE166 := GW166; replace HB := hbS hb; clear hb hg) | ((with_reducible refine gate_dst (N := 8) rfl ?_); refine boxA 8 (#[.int .u64 0, .int .u64 0]) 155 ?_; intro gb167 hg w25 BK167 hb; have GW167 := geT hg; have GE167 := GW167; obtain ⟨NB166_167, NB167_166⟩ := neT BK166 hg; replace BK166 := bkB BK166 hb; replace HB := hbS hb; clear hb hg; have hnb26 := NB166_167.out; have hnc26 := NB167_166.out; obtain ⟨z27_0, z27_1, y27_0, y27_1⟩ := cz2 BK166) | ((with_reducible refine gate_callee (f := 156) rfl ?_); refine goA (some 16) Try.func156 (twin_Shr.calls a0_0 a0_1 a2 t168 t169 t170 t171 _ A5.out) ?_; intro w28 hb; replace BK166 := bkB BK166 hb; replace BK167 := bkB BK167 hb; replace HB := hbS hb; clear hb; (try simp only [errW_none, errW_some])) | ((with_reducible refine gate_dst (N := 10) rfl ?_); refine boxA 10 (#[.int .u64 0, .int .u64 0]) 155 ?_; intro gb172 hg w29 BK172 hb; have GW172 := geT hg; have GE172 := GW172; obtain ⟨NB166_172, NB172_166⟩ := neT BK166 hg; obtain ⟨NB167_172, NB172_167⟩ := neT BK167 hg; replace BK166 := bkB BK166 hb; replace BK167 := bkB BK167 hb; replace HB := hbS hb; clear hb hg; have hnb30 := NB172_166.out; have hnc30 := NB166_172.out; have hnb31 := NB172_167.out; have hnc31 := NB167_172.out; obtain ⟨z32_0, z32_1, y32_0, y32_1⟩ := cz2 BK172))
   have n0_ : Aside0 (((w29.setCell ⟨gb172, 0, none⟩ (.int .u64 t168)).setCell ⟨gb172, 1, none⟩ (.int .u64 t169)).heap[gb166]? = some (.cells #[.int .u64 a0_0, .int .u64 a0_1] 155 (0, 0))) := ⟨bkT BK166⟩
   have n1_ : Aside0 (((w29.setCell ⟨gb172, 0, none⟩ (.int .u64 t168)).setCell ⟨gb172, 1, none⟩ (.int .u64 t169)).heap[gb167]? = some (.cells #[.int .u64 0, .int .u64 0] 155 (0, 0))) := ⟨bkT BK167⟩
   have n2_ : Aside0 (((w29.setCell ⟨gb172, 0, none⟩ (.int .u64 t168)).setCell ⟨gb172, 1, none⟩ (.int .u64 t169)).heap[gb172]? = some (.cells #[.int .u64 t168, .int .u64 t169] 155 (0, 0))) := ⟨bkT BK172⟩
   have n3_ : Aside0 (Below w.heap.size w ((w29.setCell ⟨gb172, 0, none⟩ (.int .u64 t168)).setCell ⟨gb172, 1, none⟩ (.int .u64 t169))) := ⟨hbT⟩
   (try clear BK166)
   (try clear BK167)
   (try clear BK172)
   (try clear HB)
   generalize ((w29.setCell ⟨gb172, 0, none⟩ (.int .u64 t168)).setCell ⟨gb172, 1, none⟩ (.int .u64 t169)) = w33 at n0_ n1_ n2_ n3_ ⊢
   have BK166 := n0_
   have BK167 := n1_
   have BK172 := n2_
   have HB := n3_
   clear n0_ n1_ n2_ n3_
   have n0_ := Aside0.mk (blk_drew BK166.out)
   have n1_ := Aside0.mk (blk_drew BK167.out)
   have n2_ := Aside0.mk (blk_drew BK172.out)
   have n3_ := Aside0.mk (below_drew1 HB.out)
   clear BK166
   clear BK167
   clear BK172
   clear HB
   have BK166 := n0_
   have BK167 := n1_
   have BK172 := n2_
   have HB := n3_
   clear n0_ n1_ n2_ n3_
   refine start_ (n := 9) (S := fun w' => w'.cell? ⟨gb172, 0, none⟩ = some (.int .u64 t168) ∧ w'.cell? ⟨gb172, 1, none⟩ = some (.int .u64 t169)) (ds := [8]) #[false, false, false, false, false, false, false, false, false] (by kernel_rfl) rfl rfl ⟨(blk_cell BK172.out 0).trans rfl, (blk_cell BK172.out 1).trans rfl⟩ (fun hHeld => ?_); refine with_tabW round_under.tab2 round_under.bits2 (fun HT_ HW_ => ?_)
   generalize w33.drew = w34 at BK166 BK167 BK172 HB hHeld ⊢
   refine pure_ (i := 0) (N := some 20) (v := ?_) (a' := ?_) #[true, false, false, false, false, false, false, false, false] rfl rfl (any_of HT_.out (by kernel_rfl)) (fun _ _ _ h => h) (Or.inl ⟨by rfl, ?_⟩) ?_ ?_
   rotate_left
   ·intro w'
    go_simp
    with_reducible rfl
   rotate_left
   ·simp only [Act.put, List.setIfInBounds_toArray, List.set_cons_zero, List.set_cons_succ, i64_w, i32_w]
    rfl
   refine pure_ (i := 2) (N := some 22) (v := ?_) (a' := ?_) #[true, false, true, false, false, false, false, false, false] rfl rfl (any_of HT_.out (by kernel_rfl)) (fun _ _ _ h => h) (Or.inl ⟨by rfl, ?_⟩) ?_ ?_
   rotate_left
   ·intro w'
    go_simp
    with_reducible rfl
   rotate_left
   ·simp only [Act.put, List.setIfInBounds_toArray, List.set_cons_zero, List.set_cons_succ, i64_w, i32_w]
    rfl
   refine pure_ (i := 3) (N := some 23) (v := ?_) (a' := ?_) #[true, false, true, true, false, false, false, false, false] rfl rfl (any_of HT_.out (by kernel_rfl)) (fun _ _ _ h => h) (Or.inl ⟨by rfl, ?_⟩) ?_ ?_
   rotate_left
   ·intro w'
    go_simp
    with_reducible rfl
   rotate_left
   ·simp only [Act.put, List.setIfInBounds_toArray, List.set_cons_zero, List.set_cons_succ, i64_w, i32_w]
    rfl
   refine pure_ (i := 4) (N := some 24) (v := ?_) (a' := ?_) #[true, false, true, true, true, false, false, false, false] rfl rfl (any_of HT_.out (by kernel_rfl)) (fun _ _ _ h => h) (Or.inl ⟨by rfl, ?_⟩) ?_ ?_
   rotate_left
   ·intro w'
    go_simp
    with_reducible rfl
   rotate_left
   ·simp only [Act.put, List.setIfInBounds_toArray, List.set_cons_zero, List.set_cons_succ, i64_w, i32_w]
    rfl
   refine pure_ (i := 5) (N := some 25) (v := ?_) (a' := ?_) #[true, false, true, true, true, true, false, false, false] rfl rfl (any_of HT_.out (by kernel_rfl)) (fun _ _ _ h => h) (Or.inl ⟨by rfl, ?_⟩) ?_ ?_
   rotate_left
   ·intro w'
    go_simp
    with_reducible rfl
   rotate_left
   ·simp only [Act.put, List.setIfInBounds_toArray, List.set_cons_zero, List.set_cons_succ, i64_w, i32_w]
    rfl
   refine take_ (i := 1) (N := some 21) (v := ?_) (a' := ?_) #[true, true, true, true, true, true, false, false, false] rfl rfl (take_ofW HT_.out HW_.out (by kernel_rfl)) (fun _ _ _ h => h) (Or.inl ⟨by rfl, ?_⟩) hHeld ?_ ?_
   rotate_left
   ·rintro w' ⟨s0, s1⟩
    go_simp
    with_reducible rfl
   rotate_left
   ·simp only [Act.put, List.setIfInBounds_toArray, List.set_cons_zero, List.set_cons_succ, i64_w, i32_w]
    rfl
   refine pure_ (i := 6) (N := some 26) (v := ?_) (a' := ?_) #[true, true, true, true, true, true, true, false, false] rfl rfl (any_of HT_.out (by kernel_rfl)) (fun _ _ _ h => h) (Or.inl ⟨by rfl, ?_⟩) ?_ ?_
   rotate_left
   ·intro w'
    go_simp
    with_reducible rfl
   rotate_left
   ·simp only [Act.put, List.setIfInBounds_toArray, List.set_cons_zero, List.set_cons_succ, i64_w, i32_w]
    rfl
   refine pure_ (i := 7) (N := some 27) (v := ?_) (a' := ?_) #[true, true, true, true, true, true, true, true, false] rfl rfl (any_of HT_.out (by kernel_rfl)) (fun _ _ _ h => h) (Or.inl ⟨by rfl, ?_⟩) ?_ ?_
   rotate_left
   ·intro w'
    go_simp
    with_reducible rfl
   rotate_left
   ·simp only [Act.put, List.setIfInBounds_toArray, List.set_cons_zero, List.set_cons_succ, i64_w, i32_w]
    rfl
   refine last_ (i := 8) (N := none) #[true, true, true, true, true, true, true, true, true] rfl rfl (one_of HT_.out (by kernel_rfl)) (by decide) (fun K hK => ?_)
   have hs35 : w34.cell? ⟨gb172, 0, none⟩ = some (.int .u64 t168) := (blk_cell BK172.out 0).trans rfl
   have hfs35 := blk_frozen BK172.out 0
   have hns35_0 := NB166_172.out
   have hns35_1 := NB167_172.out
   have hms35_0 := NB172_166.out
   have hms35_1 := NB172_167.out
   refine skip_ (w1 := ?_) (by rfl) rfl ?_ ?_
   rotate_left
   ·go_simp
    rfl
   refine hK.out _ _ ?_
   clear hK K
   refine done_ (done_of HT_.out (by kernel_rfl)) ?_
   obtain ⟨z36_0, z36_1, y36_0, y36_1⟩ := cz2 BK172
   obtain ⟨z37_0, z37_1, y37_0, y37_1⟩ := cz2 BK167
   try go_wp2
   refine bodyPost_ret (results_ct rfl _ _ gb167 155 #[.int .u64 (Go.bits .or .u64 t168 (ji8)), .int .u64 t169] (0, 0) _ rfl (bkT BK167) Try.underlying155 rfl (by kernel_rfl)) rfl ?_
   exact ⟨by first | rfl | (simp [errW_none, errW_some] <;> rfl) | (simp only [← hji6, ← hji8]; first | rfl | (simp [errW_none, errW_some] <;> rfl)) | (simp [*, errW_none, errW_some] <;> rfl), hbT⟩
 ·rw [if_neg c7] at H
  exact absurd H (by simp)
end Go.Proofs.Ytnlbfomlfhigcaa.Q
namespace Go.Proofs.Ytnlbfomlfhigcaa.Q
open Go.RowKit Go.Proofs.YtnlbfomlfhigcaaW.PrintWords Go.Proofs.YtnlbfomlfhigcaaW.PrintLast Go.Proofs.YtnlbfomlfhigcaaW.PrintMore
attribute [local go_sem] max2_int min2_int max_two min_two max_three min_three max_four min_four
set_option linter.unusedVariables false
set_option linter.unusedSimpArgs false
def round_left.j0 : Nat → Int → Bool → Int → Bool → Option (Int)
 | 0, _, _, _, _ => none
 | k + 1, x0, x1, x5, x6 => if x6 = true then (some 3) else (if x0 = x5 then (some 2) else (if x0 > 0 then (some 1) else (if x1 = true then (some 1) else (some 0))))
def round_left.f (k : Nat) (a0 : Int) (a1 : Bool) : Option (Int) := if a0 > 9223372036854775808 then (round_left.j0 k a0 a1 9223372036854775808 (decide (a0 > 9223372036854775808))) else (if a0 = 9223372036854775808 then (round_left.j0 k a0 a1 9223372036854775808 a1) else (round_left.j0 k a0 a1 9223372036854775808 false))
set_option maxHeartbeats 8000000 in
set_option maxRecDepth 100000 in
theorem round_left.calls (k : Nat) (a0 : Int) (a1 : Bool) (r : Int) (w : World) (h : round_left.f k a0 a1 = some r) :
  Calls Try.prog 127 #[.int .u64 a0, .bool a1] w fun e w' => e = .returned (.int .i64 r) ∧ Drawn0 w w' := by
 have H := h
 clear h
 unfold round_left.f at H
 have HC3 := Aside0.mk H
 clear H
 go_enter Try.func127, Try.ntmps127
 go_upto_if 6 with (fail)
 go_cut [6] (fun v6 wc => ∃ (kq : Nat) (x6_2 : Bool), v6 = .bool x6_2 ∧ Aside0 (round_left.j0 kq a0 a1 9223372036854775808 x6_2 = some r) ∧ Aside0 (kq ≤ k) ∧ Drawn0 w wc)
 case first =>
  have H := HC3.out
  clear HC3
  by_cases c4 : a0 > 9223372036854775808
  ·rw [if_pos c4] at H
   have c4b0 : decide (9223372036854775808 < a0) = true := decide_eq_true c4
   clear c4
   (first | rw [c4b0] | (simp only [i64_w, i32_w]; rw [c4b0]) | rw [c4b1] | skip)
   have H' := Aside0.mk H
   clear H
   go_wp2
   go_meet
   case rel => exact ⟨_, (decide (a0 > 9223372036854775808)), okT, H', leT, by repeat (first | exact Drawn0.refl _ | apply Drawn0.step)⟩
  ·rw [if_neg c4] at H
   have c4b0 : decide (9223372036854775808 < a0) = false := decide_eq_false c4
   clear c4
   (first | rw [c4b0] | (simp only [i64_w, i32_w]; rw [c4b0]) | rw [c4b1] | skip)
   by_cases c5 : a0 = 9223372036854775808
   ·rw [if_pos c5] at H
    obtain ⟨c5b0, c5b1⟩ := eqY c5
    clear c5
    have H' := Aside0.mk H
    clear H
    go_wp2
    go_meet
    case rel => exact ⟨_, (a1), okT, H', leT, by repeat (first | exact Drawn0.refl _ | apply Drawn0.step)⟩
   ·rw [if_neg c5] at H
    obtain ⟨c5b0, c5b1⟩ := eqN c5
    have H' := Aside0.mk H
    clear H
    go_wp2
    go_meet
    case rel => exact ⟨_, (false), okT, H', leT, by repeat (first | exact Drawn0.refl _ | apply Drawn0.step)⟩
 case rest =>
  clear HC3
  obtain ⟨kq, x6_2, rfl, HA, HJ2, ⟨mc2, rfl⟩⟩ := hcut
  cases kq with
  | zero => exact absurd HA.out (by simp [round_left.j0])
  | succ kj2 =>
   have H := HA.out
   clear HA
   simp only [round_left.j0] at H
   by_cases c6 : x6_2 = true
   ·subst c6
    rw [if_pos rfl] at H
    obtain rfl := Option.some.inj H
    go_wp2
    go_ret
    exact ⟨okT, by repeat (first | exact Drawn0.refl _ | apply Drawn0.step)⟩
   ·replace c6 := Bool.eq_false_iff.mpr c6
    subst c6
    rw [if_neg (show ¬ (false = true) by decide)] at H
    by_cases c7 : a0 = 9223372036854775808
    ·rw [if_pos c7] at H
     obtain ⟨c7b0, c7b1⟩ := eqY c7
     clear c7
     obtain rfl := Option.some.inj H
     go_wp2
     go_ret
     exact ⟨okT, by repeat (first | exact Drawn0.refl _ | apply Drawn0.step)⟩
    ·rw [if_neg c7] at H
     obtain ⟨c7b0, c7b1⟩ := eqN c7
     by_cases c8 : a0 > 0
     ·rw [if_pos c8] at H
      have c8b0 : decide (0 < a0) = true := decide_eq_true c8
      clear c8
      obtain rfl := Option.some.inj H
      go_wp2
      go_ret
      exact ⟨okT, by repeat (first | exact Drawn0.refl _ | apply Drawn0.step)⟩
     ·rw [if_neg c8] at H
      have c8b0 : decide (0 < a0) = false := decide_eq_false c8
      clear c8
      by_cases c9 : a1 = true
      ·subst c9
       rw [if_pos rfl] at H
       obtain rfl := Option.some.inj H
       go_wp2
       go_ret
       exact ⟨okT, by repeat (first | exact Drawn0.refl _ | apply Drawn0.step)⟩
      ·replace c9 := Bool.eq_false_iff.mpr c9
       subst c9
       rw [if_neg (show ¬ (false = true) by decide)] at H
       obtain rfl := Option.some.inj H
       go_wp2
       go_ret
       exact ⟨okT, by repeat (first | exact Drawn0.refl _ | apply Drawn0.step)⟩
end Go.Proofs.Ytnlbfomlfhigcaa.Q
