/- Walks and plain laws that the claim stands on: each theorem named calls says that a call of a function returns what its f computes; the others are plain laws of these f, and the words that the walks use. -/
import Derived.Test.YtnlbfomlfhigcaaFuseExactsV2
import Derived.Test.YtnlbfomlfhigcaaFuseExactsV15
import Derived.Test.YtnlbfomlfhigcaaFuseExactsV16
import Derived.Test.YtnlbfomlfhigcaaFuseExactsV14
namespace Go.Proofs.Ytnlbfomlfhigcaa.Q
open Go.RowKit Go.Proofs.YtnlbfomlfhigcaaW.PrintWords Go.Proofs.YtnlbfomlfhigcaaW.PrintLast Go.Proofs.YtnlbfomlfhigcaaW.PrintMore
attribute [local go_sem] max2_int min2_int max_two min_two max_three min_three max_four min_four
set_option linter.unusedVariables false
set_option linter.unusedSimpArgs false
mutual
def vernierref07_Exactly.j0 : Nat → List Int → Bool → Int → Int → Bool → Int → Int → Int → Bool → Option (Int × Bool × Int × Int × Int × Bool)
 | 0, _, _, _, _, _, _, _, _, _ => none
 | k + 1, x1, x3, x9, x796000, x796001, x796002, x796003, x796004, x796005 => if x9 > 128 then ((vernierref04_Low.f k x1 (wrap64 (x9 - 128))).bind fun t799 => (if x3 = true then (vernierref07_Exactly.j1 k x1 x9 x796000 x796001 x796002 x796003 x796004 true) else (vernierref07_Exactly.j1 k x1 x9 x796000 x796001 x796002 x796003 x796004 t799))) else ((vernierref04_Word.f k x1).bind fun t808 => ((vernierref04_Shr.f k x1 64).bind fun t809 => ((vernierref04_Word.f k t809).bind fun t812 => (some (x796000, x796001, x796002, t812, t808, x796005)))))
def vernierref07_Exactly.j1 : Nat → List Int → Int → Int → Bool → Int → Int → Int → Bool → Option (Int × Bool × Int × Int × Int × Bool)
 | 0, _, _, _, _, _, _, _, _ => none
 | k + 1, x1, x9, x796000, x796001, x796002, x796003, x796004, x796005 => (vernierref04_Shr.f k x1 (wrap64 (x9 - 128))).bind fun t800 => ((vernierref04_Word.f k t800).bind fun t803 => ((vernierref04_Shr.f k t800 64).bind fun t804 => ((vernierref04_Word.f k t804).bind fun t807 => (some (x796000, x796001, x796002, t807, t803, x796005)))))
end
def vernierref07_Exactly.f (k : Nat) (a0 : Bool) (l1 : List Int) (a2 : Int) (a3 : Bool) : Option (Int × Bool × Int × Int × Int × Bool) := (vernierref04_Bits.f k l1).bind fun t793 => (if t793 = 0 then (some (0, false, 0, 0, 0, false)) else ((vernierref07_Held.f (wrap64 ((wrap64 (a2 + t793)) - 1))).bind fun t794 => (if t793 < 128 then ((vernierref04_Shl.f k l1 (wrap64 (128 - t793))).bind fun t796 => (vernierref07_Exactly.j0 k t796 a3 t793 1 a0 t794 0 0 a3)) else (vernierref07_Exactly.j0 k l1 a3 t793 1 a0 t794 0 0 a3))))
set_option maxHeartbeats 8000000 in
set_option maxRecDepth 100000 in
theorem vernierref07_Exactly.calls (k : Nat) (a0 : Bool) (P1_ : Nat → Prop) (u9000_ : Value) (l1 : List Int) (a2 : Int) (a3 : Bool) (r1 : Int) (r2 : Bool) (r3 : Int) (r4 : Int) (r5 : Int) (r6 : Bool) (w0 w : World) (hB : Below w0.heap.size w0 w) (ho1 : Kd.R (Kd.int .i64) 3 w w0.heap.size P1_ u9000_ l1) (h : vernierref07_Exactly.f k a0 l1 a2 a3 = some (r1, r2, r3, r4, r5, r6)) :
  Calls Try.prog 115 #[.bool a0, u9000_, .int .i64 a2, .bool a3] w fun e w' => e = .returned (.agg #[.int .i64 r1, .bool r2, .int .i64 r3, .int .u64 r4, .int .u64 r5, .bool r6]) ∧ Below w0.heap.size w0 w' ∧ Kept w w' (fun k_ => P1_ k_) := by
 have hu86 := Try.underlying86
 have HO1 := Aside0.mk (show Kd.R (Kd.int .i64) 3 w w0.heap.size (fun k_ => (P1_ k_ ∨ w.heap.size ≤ k_)) u9000_ l1 from Kd.R_mono ho1 (fun k_ hk => (.inl hk)))
 have HK := Aside0.mk (Kept.refl w (fun k_ => P1_ k_))
 have HW0 := Aside0.mk hB.size
 have HB := Aside0.mk hB
 clear hB
 have H := h
 clear h
 unfold vernierref07_Exactly.f at H
 replace H := Option.bind_eq_some_iff.mp H
 obtain ⟨t793, A50, H⟩ := H
 try dsimp only at H
 have A5 := Aside0.mk A50
 clear A50
 by_cases c6 : t793 = 0
 ·rw [if_pos c6] at H
  obtain ⟨c6b0, c6b1⟩ := eqY c6
  clear c6
  simp only [Option.some.injEq, Prod.mk.injEq] at H
  obtain ⟨rfl, rfl, rfl, rfl, rfl, rfl⟩ := H
  go_enter Try.func115, Try.ntmps115
  go_wp2_with (first | ((with_reducible refine gate_dst (N := 8) rfl ?_); refine box_event ?hg (N := 8) ?hd (cs := #[.int .i64 0, .bool false, .int .i64 0, .int .u64 0, .int .u64 0, .bool false]) (t := 86) ?hr ?_; (case hd => rfl); (case hg => rfl); (case hr => first | (go_simp; done) | (go_simp; rfl)); intro gb792 hg w7 hbox hb; have n0_ := Aside0.mk (Kd.R_below (by (with_reducible repeat (first | apply Kd.R_alloc | apply Kd.R_drewN | apply Kd.R_drew)); exact HO1.out) hb); have n1_ := Aside0.mk (Kept.below (S := (fun k_ => P1_ k_)) (by repeat (first | (with_reducible first | exact HK.out | apply Kept.alloc | apply Kept.drewN | apply Kept.drew) | exact HK.out)) hb); have n2_ := hbS hb; have n3_ := Aside0.mk (hbox); have n4_ := Aside0.mk ((by rw [hg]; exact (by first | exact HK.out.1 | exact (show Kept w _ (fun k_ => P1_ k_) from by repeat (first | (with_reducible first | exact HK.out | apply Kept.alloc | apply Kept.drewN | apply Kept.drew) | exact HK.out)).1) : w.heap.size ≤ gb792)); have n5_ := Aside0.mk ((by rw [hg]; exact (below_size hbT) : w0.heap.size ≤ gb792)); clear HO1; clear HK; clear HB; have HO1 := n0_; have HK := n1_; have HB := n2_; have BK792 := n3_; have GW792 := n4_; have GE792 := n5_; clear n0_ n1_ n2_ n3_ n4_ n5_; clear hb hbox hg; obtain ⟨Ao8, co8, eo8⟩ := Kd.R_slice HO1.out; subst eo8) | ((with_reducible refine gate_callee (f := 143) rfl ?_); refine goesL_ (some 13) rfl rfl Try.func143 (by kernel_rfl) rfl #[.slice Ao8 l1.length co8] rfl (by (try simp only [List.map_toArray, List.map_cons, List.map_nil]); first | done | rfl | (simp only [List.length_drop, List.length_take]; rfl)) ?_; (with_reducible refine (vernierref04_Bits.calls k _ _ l1 t793 _ ?side1 ?side2 A5.out).mono ?_); (case side1 => repeat (first | exact (Kd.R_reads' HO1.out).2.2 | (with_reducible refine Kd.C_alloc ?_ _) | (with_reducible refine Kd.C_drewN ?_ _) | (with_reducible refine Kd.C_drew ?_))); (case side2 => exact (Kd.R_reads' HO1.out).2.1); rintro e w' ⟨rfl, ⟨nd, rfl⟩⟩; refine ⟨_, rfl, ?_⟩; (try (rw [drewN_self w7]; generalize hq_ : World.drewN w7 _ = w7; have n0_ : Aside0 (Kd.R (Kd.int .i64) 3 w7 w0.heap.size (fun k_ => (P1_ k_ ∨ w.heap.size ≤ k_)) (.slice Ao8 l1.length co8) l1) := ⟨by rw [← hq_]; exact (by (with_reducible repeat (first | apply Kd.R_alloc | apply Kd.R_drewN | apply Kd.R_drew)); exact HO1.out)⟩; have n1_ : Aside0 (w7.heap[gb792]? = some (.cells #[.int .i64 0, .bool false, .int .i64 0, .int .u64 0, .int .u64 0, .bool false] 86 (0, 0))) := ⟨by rw [← hq_]; exact (bkT BK792)⟩; have n2_ : Aside0 (Kept w w7 (fun k_ => P1_ k_)) := ⟨by rw [← hq_]; exact (by repeat (first | (with_reducible first | exact HK.out | apply Kept.alloc | apply Kept.drewN | apply Kept.drew | refine Kept.setCell ?_ (.inr GW792.out) _) | exact HK.out))⟩; have n3_ : Aside0 (Below w0.heap.size w0 w7) := ⟨by rw [← hq_]; exact hbT⟩; clear HO1 BK792 HK HB hq_; have HO1 := n0_; have BK792 := n1_; have HK := n2_; have HB := n3_; clear n0_ n1_ n2_ n3_)); obtain ⟨z9_0, z9_1, z9_2, z9_3, z9_4, z9_5, y9_0, y9_1, y9_2, y9_3, y9_4, y9_5⟩ := cz6 BK792))
  refine bodyPost_ret (results_cell_row rfl _ _ gb792 86 #[.int .i64 0, .bool false, .int .i64 0, .int .u64 0, .int .u64 0, .bool false] (0, 0) _ rfl (bkT BK792) Try.underlying86 rfl (by kernel_rfl)) rfl ?_
  exact ⟨reT, hbT, by repeat (first | (with_reducible first | exact HK.out | apply Kept.alloc | apply Kept.drewN | apply Kept.drew | refine Kept.setCell ?_ (.inr GW792.out) _) | exact HK.out)⟩
 ·rw [if_neg c6] at H
  obtain ⟨c6b0, c6b1⟩ := eqN c6
  replace H := Option.bind_eq_some_iff.mp H
  obtain ⟨t794, A100, H⟩ := H
  try dsimp only at H
  have A10 := Aside0.mk A100
  clear A100
  have HC11 := Aside0.mk H
  clear H
  go_enter Try.func115, Try.ntmps115
  go_upto_if 26 with (first | ((with_reducible refine gate_dst (N := 8) rfl ?_); refine box_event ?hg (N := 8) ?hd (cs := #[.int .i64 0, .bool false, .int .i64 0, .int .u64 0, .int .u64 0, .bool false]) (t := 86) ?hr ?_; (case hd => rfl); (case hg => rfl); (case hr => first | (go_simp; done) | (go_simp; rfl)); intro gb792 hg w12 hbox hb; have n0_ := Aside0.mk (Kd.R_below (by (with_reducible repeat (first | apply Kd.R_alloc | apply Kd.R_drewN | apply Kd.R_drew)); exact HO1.out) hb); have n1_ := Aside0.mk (Kept.below (S := (fun k_ => P1_ k_)) (by repeat (first | (with_reducible first | exact HK.out | apply Kept.alloc | apply Kept.drewN | apply Kept.drew) | exact HK.out)) hb); have n2_ := hbS hb; have n3_ := Aside0.mk (hbox); have n4_ := Aside0.mk ((by rw [hg]; exact (by first | exact HK.out.1 | exact (show Kept w _ (fun k_ => P1_ k_) from by repeat (first | (with_reducible first | exact HK.out | apply Kept.alloc | apply Kept.drewN | apply Kept.drew) | exact HK.out)).1) : w.heap.size ≤ gb792)); have n5_ := Aside0.mk ((by rw [hg]; exact (below_size hbT) : w0.heap.size ≤ gb792)); clear HO1; clear HK; clear HB; have HO1 := n0_; have HK := n1_; have HB := n2_; have BK792 := n3_; have GW792 := n4_; have GE792 := n5_; clear n0_ n1_ n2_ n3_ n4_ n5_; clear hb hbox hg; obtain ⟨Ao13, co13, eo13⟩ := Kd.R_slice HO1.out; subst eo13) | ((with_reducible refine gate_callee (f := 143) rfl ?_); refine goesL_ (some 13) rfl rfl Try.func143 (by kernel_rfl) rfl #[.slice Ao13 l1.length co13] rfl (by (try simp only [List.map_toArray, List.map_cons, List.map_nil]); first | done | rfl | (simp only [List.length_drop, List.length_take]; rfl)) ?_; (with_reducible refine (vernierref04_Bits.calls k _ _ l1 t793 _ ?side1 ?side2 A5.out).mono ?_); (case side1 => repeat (first | exact (Kd.R_reads' HO1.out).2.2 | (with_reducible refine Kd.C_alloc ?_ _) | (with_reducible refine Kd.C_drewN ?_ _) | (with_reducible refine Kd.C_drew ?_))); (case side2 => exact (Kd.R_reads' HO1.out).2.1); rintro e w' ⟨rfl, ⟨nd, rfl⟩⟩; refine ⟨_, rfl, ?_⟩; (try (rw [drewN_self w12]; generalize hq_ : World.drewN w12 _ = w12; have n0_ : Aside0 (Kd.R (Kd.int .i64) 3 w12 w0.heap.size (fun k_ => (P1_ k_ ∨ w.heap.size ≤ k_)) (.slice Ao13 l1.length co13) l1) := ⟨by rw [← hq_]; exact (by (with_reducible repeat (first | apply Kd.R_alloc | apply Kd.R_drewN | apply Kd.R_drew)); exact HO1.out)⟩; have n1_ : Aside0 (w12.heap[gb792]? = some (.cells #[.int .i64 0, .bool false, .int .i64 0, .int .u64 0, .int .u64 0, .bool false] 86 (0, 0))) := ⟨by rw [← hq_]; exact (bkT BK792)⟩; have n2_ : Aside0 (Kept w w12 (fun k_ => P1_ k_)) := ⟨by rw [← hq_]; exact (by repeat (first | (with_reducible first | exact HK.out | apply Kept.alloc | apply Kept.drewN | apply Kept.drew | refine Kept.setCell ?_ (.inr GW792.out) _) | exact HK.out))⟩; have n3_ : Aside0 (Below w0.heap.size w0 w12) := ⟨by rw [← hq_]; exact hbT⟩; clear HO1 BK792 HK HB hq_; have HO1 := n0_; have BK792 := n1_; have HK := n2_; have HB := n3_; clear n0_ n1_ n2_ n3_))) | ((with_reducible refine gate_callee (f := 144) rfl ?_); refine goesL_ (some 22) rfl rfl Try.func144 (by kernel_rfl) rfl #[.int .i64 (wrap64 ((wrap64 (a2 + t793)) - 1))] rfl (by (try simp only [List.map_toArray, List.map_cons, List.map_nil]); first | done | rfl | (simp only [List.length_drop, List.length_take]; rfl)) ?_; (with_reducible refine (vernierref07_Held.calls (wrap64 ((wrap64 (a2 + t793)) - 1)) t794 _ A10.out).mono ?_); rintro e w' ⟨rfl, ⟨nd, rfl⟩⟩; refine ⟨_, rfl, ?_⟩; (try (rw [drewN_self w12]; generalize hq_ : World.drewN w12 _ = w12; have n0_ : Aside0 (Kd.R (Kd.int .i64) 3 w12 w0.heap.size (fun k_ => (P1_ k_ ∨ w.heap.size ≤ k_)) (.slice Ao13 l1.length co13) l1) := ⟨by rw [← hq_]; exact (by (with_reducible repeat (first | apply Kd.R_alloc | apply Kd.R_drewN | apply Kd.R_drew)); exact HO1.out)⟩; have n1_ : Aside0 (w12.heap[gb792]? = some (.cells #[.int .i64 0, .bool false, .int .i64 0, .int .u64 0, .int .u64 0, .bool false] 86 (0, 0))) := ⟨by rw [← hq_]; exact (bkT BK792)⟩; have n2_ : Aside0 (Kept w w12 (fun k_ => P1_ k_)) := ⟨by rw [← hq_]; exact (by repeat (first | (with_reducible first | exact HK.out | apply Kept.alloc | apply Kept.drewN | apply Kept.drew | refine Kept.setCell ?_ (.inr GW792.out) _) | exact HK.out))⟩; have n3_ : Aside0 (Below w0.heap.size w0 w12) := ⟨by rw [← hq_]; exact hbT⟩; clear HO1 BK792 HK HB hq_; have HO1 := n0_; have BK792 := n1_; have HK := n2_; have HB := n3_; clear n0_ n1_ n2_ n3_))) | ((with_reducible refine gate_dst (N := 10) rfl ?_); refine box_event ?hg (N := 10) ?hd (cs := #[.int .i64 0, .bool false, .int .i64 0, .int .u64 0, .int .u64 0, .bool false]) (t := 86) ?hr ?_; (case hd => rfl); (case hg => rfl); (case hr => first | (go_simp; done) | (go_simp; rfl)); intro gb795 hg w14 hbox hb; have n0_ := Aside0.mk (Kd.R_below (by (with_reducible repeat (first | apply Kd.R_alloc | apply Kd.R_drewN | apply Kd.R_drew)); exact HO1.out) hb); have n1_ := bkB BK792 hb; have n2_ := Aside0.mk (Kept.below (S := (fun k_ => P1_ k_)) (by repeat (first | (with_reducible first | exact HK.out | apply Kept.alloc | apply Kept.drewN | apply Kept.drew | refine Kept.setCell ?_ (.inr GW792.out) _) | exact HK.out)) hb); have n3_ := hbS hb; have n4_ := Aside0.mk (hbox); have n5_ := Aside0.mk ((by rw [hg]; exact (by first | exact HK.out.1 | exact (show Kept w _ (fun k_ => P1_ k_) from by repeat (first | (with_reducible first | exact HK.out | apply Kept.alloc | apply Kept.drewN | apply Kept.drew | refine Kept.setCell ?_ (.inr GW792.out) _) | exact HK.out)).1) : w.heap.size ≤ gb795)); have n6_ := Aside0.mk ((by rw [hg]; exact (below_size hbT) : w0.heap.size ≤ gb795)); have n7_ := nlT BK792 hg; have n8_ := ngT BK792 hg; clear HO1; clear BK792; clear HK; clear HB; have HO1 := n0_; have BK792 := n1_; have HK := n2_; have HB := n3_; have BK795 := n4_; have GW795 := n5_; have GE795 := n6_; have NB792_795 := n7_; have NB795_792 := n8_; clear n0_ n1_ n2_ n3_ n4_ n5_ n6_ n7_ n8_; clear hb hbox hg; have hnb15 := NB795_792.out; have hnc15 := NB792_795.out; obtain ⟨z16_0, z16_1, z16_2, z16_3, z16_4, z16_5, y16_0, y16_1, y16_2, y16_3, y16_4, y16_5⟩ := cz6 BK795))
  (try simp only [Act.put, List.setIfInBounds_toArray, List.set_cons_zero, List.set_cons_succ])
  go_cut [1] (fun v1 wc => ∃ (kq : Nat) (x1_10 : List Int), Aside0 (vernierref07_Exactly.j0 kq x1_10 a3 t793 1 a0 t794 0 0 a3 = some (r1, r2, r3, r4, r5, r6)) ∧ Aside0 (kq ≤ k) ∧ Aside0 (Kd.R (Kd.int .i64) 3 wc w0.heap.size (fun k_ => (P1_ k_ ∨ w.heap.size ≤ k_)) v1 x1_10) ∧ Aside0 (wc.heap[gb792]? = some (.cells #[.int .i64 0, .bool false, .int .i64 0, .int .u64 0, .int .u64 0, .bool false] 86 (0, 0))) ∧ Aside0 (wc.heap[gb795]? = some (.cells #[.int .i64 1, .bool a0, .int .i64 t794, .int .u64 0, .int .u64 0, .bool a3] 86 (0, 0))) ∧ Aside0 (Kept w wc (fun k_ => P1_ k_)) ∧ Aside0 (Below w0.heap.size w0 wc))
  case first =>
   have H := HC11.out
   clear HC11
   by_cases c17 : t793 < 128
   ·rw [if_pos c17] at H
    have c17b0 : decide (t793 < 128) = true := decide_eq_true c17
    clear c17
    (first | rw [c17b0] | (simp only [i64_w, i32_w]; rw [c17b0]) | rw [c17b1] | skip)
    replace H := Option.bind_eq_some_iff.mp H
    obtain ⟨t796, A180, H⟩ := H
    try dsimp only at H
    have A18 := Aside0.mk A180
    clear A180
    have H' := Aside0.mk H
    clear H
    go_wp2_with (first | ((with_reducible refine gate_callee (f := 114) rfl ?_); refine goesL_ (some 30) rfl rfl Try.func114 (by kernel_rfl) rfl #[.slice Ao13 l1.length co13, .int .i64 (wrap64 (128 - t793))] rfl (by (try simp only [List.map_toArray, List.map_cons, List.map_nil]); first | done | rfl | (simp only [List.length_drop, List.length_take]; rfl)) ?_; (with_reducible refine (vernierref04_Shl.calls k _ _ l1 (wrap64 (128 - t793)) t796 _ ?side1 ?side2 A18.out).mono ?_); (case side1 => refine (Kd.R_reads' (e := 3) (base := w0.heap.size) (ok := fun k_ => (P1_ k_ ∨ w.heap.size ≤ k_)) (n := l1.length) (c := co13) ?_).2.2; exact (by (with_reducible repeat (first | apply Kd.R_alloc | apply Kd.R_drewN | apply Kd.R_drew)); exact (Kd.R_mono (Kd.R_far (p := ⟨gb795, 5, none⟩) (Kd.R_far (p := ⟨gb795, 4, none⟩) (Kd.R_far (p := ⟨gb795, 3, none⟩) (Kd.R_far (p := ⟨gb795, 2, none⟩) (Kd.R_far (p := ⟨gb795, 1, none⟩) (Kd.R_far (p := ⟨gb795, 0, none⟩) (Kd.R_types HO1.out BK795.out (by decide)) (fun _ hk => hk.2) (.int .i64 1)) (fun _ hk => hk.2) (.bool a0)) (fun _ hk => hk.2) (.int .i64 t794)) (fun _ hk => hk.2) (.int .u64 0)) (fun _ hk => hk.2) (.int .u64 0)) (fun _ hk => hk.2) (.bool a3)) (fun _ h_ => h_.1)))); (case side2 => exact (Kd.R_reads' HO1.out).2.1); rintro e w19 ⟨v797, rfl, ho0, hb⟩; refine ⟨_, rfl, ?_⟩; have n0_ := Aside0.mk (Kd.R_elder' (by (with_reducible repeat (first | apply Kd.R_alloc | apply Kd.R_drewN | apply Kd.R_drew)); exact (Kd.R_mono (Kd.R_far (p := ⟨gb795, 5, none⟩) (Kd.R_far (p := ⟨gb795, 4, none⟩) (Kd.R_far (p := ⟨gb795, 3, none⟩) (Kd.R_far (p := ⟨gb795, 2, none⟩) (Kd.R_far (p := ⟨gb795, 1, none⟩) (Kd.R_far (p := ⟨gb795, 0, none⟩) (Kd.R_types HO1.out BK795.out (by decide)) (fun _ hk => hk.2) (.int .i64 1)) (fun _ hk => hk.2) (.bool a0)) (fun _ hk => hk.2) (.int .i64 t794)) (fun _ hk => hk.2) (.int .u64 0)) (fun _ hk => hk.2) (.int .u64 0)) (fun _ hk => hk.2) (.bool a3)) (fun _ h_ => h_.1))) (Kd.R_base ho0) hb); have n1_ := Aside0.mk (Kd.R_lower (Kd.R_new' (Kd.R_newM (M := fun k_ => (P1_ k_ ∨ w.heap.size ≤ k_)) ho0 (show Kept w _ (fun k_ => P1_ k_) from by repeat (first | (with_reducible first | exact HK.out | apply Kept.alloc | apply Kept.drewN | apply Kept.drew | refine Kept.setCell ?_ (.inr GW792.out) _ | refine Kept.setCell ?_ (.inr GW795.out) _) | exact HK.out)).1 (fun k_ h_ => .inr h_)) (Kd.R_lt (by (with_reducible repeat (first | apply Kd.R_alloc | apply Kd.R_drewN | apply Kd.R_drew)); exact (Kd.R_mono (Kd.R_far (p := ⟨gb795, 5, none⟩) (Kd.R_far (p := ⟨gb795, 4, none⟩) (Kd.R_far (p := ⟨gb795, 3, none⟩) (Kd.R_far (p := ⟨gb795, 2, none⟩) (Kd.R_far (p := ⟨gb795, 1, none⟩) (Kd.R_far (p := ⟨gb795, 0, none⟩) (Kd.R_types HO1.out BK795.out (by decide)) (fun _ hk => hk.2) (.int .i64 1)) (fun _ hk => hk.2) (.bool a0)) (fun _ hk => hk.2) (.int .i64 t794)) (fun _ hk => hk.2) (.int .u64 0)) (fun _ hk => hk.2) (.int .u64 0)) (fun _ hk => hk.2) (.bool a3)) (fun _ h_ => h_.1))))) (below_size hbT)); have n2_ := bkB BK792 hb; have n3_ := bkB (o := .cells #[.int .i64 1, .bool a0, .int .i64 t794, .int .u64 0, .int .u64 0, .bool a3] 86 (0, 0)) BK795 hb; have n4_ := Aside0.mk (Kept.below (S := (fun k_ => P1_ k_)) (by repeat (first | (with_reducible first | exact HK.out | apply Kept.alloc | apply Kept.drewN | apply Kept.drew | refine Kept.setCell ?_ (.inr GW792.out) _ | refine Kept.setCell ?_ (.inr GW795.out) _) | exact HK.out)) hb); have n5_ := hbS hb; clear HO1; clear BK792; clear BK795; clear HK; clear HB; have HO1 := n0_; have HO798 := n1_; have BK792 := n2_; have BK795 := n3_; have HK := n4_; have HB := n5_; clear n0_ n1_ n2_ n3_ n4_ n5_; (try clear hb); (try clear hb2); (try clear hk); (try clear hi); (try clear ho0)))
    go_meet
    case rel => exact ⟨_, (t796), H', leT, ⟨by (with_reducible repeat (first | apply Kd.R_alloc | apply Kd.R_drewN | apply Kd.R_drew)); exact Kd.R_mono HO798.out (fun _ hk => hk.1.1)⟩, ⟨bkT BK792⟩, ⟨bkT BK795⟩, ⟨by repeat (first | (with_reducible first | exact HK.out | apply Kept.alloc | apply Kept.drewN | apply Kept.drew | refine Kept.setCell ?_ (.inr GW792.out) _ | refine Kept.setCell ?_ (.inr GW795.out) _) | exact HK.out)⟩, ⟨hbT⟩⟩
   ·rw [if_neg c17] at H
    have c17b0 : decide (t793 < 128) = false := decide_eq_false c17
    clear c17
    (first | rw [c17b0] | (simp only [i64_w, i32_w]; rw [c17b0]) | rw [c17b1] | skip)
    have H' := Aside0.mk H
    clear H
    go_wp2
    go_meet
    case rel => exact ⟨_, (l1), H', leT, ⟨by (with_reducible repeat (first | apply Kd.R_alloc | apply Kd.R_drewN | apply Kd.R_drew)); exact Kd.R_mono (Kd.R_far (p := ⟨gb795, 5, none⟩) (Kd.R_far (p := ⟨gb795, 4, none⟩) (Kd.R_far (p := ⟨gb795, 3, none⟩) (Kd.R_far (p := ⟨gb795, 2, none⟩) (Kd.R_far (p := ⟨gb795, 1, none⟩) (Kd.R_far (p := ⟨gb795, 0, none⟩) (Kd.R_types HO1.out BK795.out (by decide)) (fun _ hk => hk.2) (.int .i64 1)) (fun _ hk => hk.2) (.bool a0)) (fun _ hk => hk.2) (.int .i64 t794)) (fun _ hk => hk.2) (.int .u64 0)) (fun _ hk => hk.2) (.int .u64 0)) (fun _ hk => hk.2) (.bool a3)) (fun _ hk => hk.1)⟩, ⟨bkT BK792⟩, ⟨bkT BK795⟩, ⟨by repeat (first | (with_reducible first | exact HK.out | apply Kept.alloc | apply Kept.drewN | apply Kept.drew | refine Kept.setCell ?_ (.inr GW792.out) _ | refine Kept.setCell ?_ (.inr GW795.out) _) | exact HK.out)⟩, ⟨hbT⟩⟩
  case rest =>
   clear HC11
   try clear c6
   try clear c6b0
   try clear c6b1
   try clear z16_0 z16_1 z16_2 z16_3 z16_4 z16_5 y16_0 y16_1 y16_2 y16_3 y16_4 y16_5
   obtain ⟨kq, x1_10, HA, HJ10, HO_1, BK792, BK795, HK, HB⟩ := hcut
   cases kq with
   | zero => exact absurd HA.out (by simp [vernierref07_Exactly.j0])
   | succ kj10 =>
    have H := HA.out
    clear HA
    simp only [vernierref07_Exactly.j0] at H
    by_cases c20 : t793 > 128
    ·rw [if_pos c20] at H
     have c20b0 : decide (128 < t793) = true := decide_eq_true c20
     clear c20
     replace H := Option.bind_eq_some_iff.mp H
     obtain ⟨t799, A210, H⟩ := H
     try dsimp only at H
     have A21 := Aside0.mk A210
     clear A210
     have HC22 := Aside0.mk H
     clear H
     obtain ⟨Ao23, co23, eo23⟩ := Kd.R_slice HO_1.out
     subst eo23
     go_upto_region 9 with (first | ((with_reducible refine gate_callee (f := 145) rfl ?_); refine goesL_ (some 36) rfl rfl Try.func145 (by kernel_rfl) rfl #[.slice Ao23 x1_10.length co23, .int .i64 (wrap64 (t793 - 128))] rfl (by (try simp only [List.map_toArray, List.map_cons, List.map_nil]); first | done | rfl | (simp only [List.length_drop, List.length_take]; rfl)) ?_; (with_reducible refine (vernierref04_Low.calls kj10 _ _ x1_10 (wrap64 (t793 - 128)) t799 _ ?side1 ?side2 A21.out).mono ?_); (case side1 => repeat (first | exact (Kd.R_reads' HO_1.out).2.2 | (with_reducible refine Kd.C_alloc ?_ _) | (with_reducible refine Kd.C_drewN ?_ _) | (with_reducible refine Kd.C_drew ?_))); (case side2 => exact (Kd.R_reads' HO_1.out).2.1); rintro e w' ⟨rfl, ⟨nd, rfl⟩⟩; refine ⟨_, rfl, ?_⟩))
     (try simp only [Act.put, List.setIfInBounds_toArray, List.set_cons_zero, List.set_cons_succ])
     go_cut [] (fun wc => ∃ (kq : Nat) (x796005_21 : Bool), Aside0 (vernierref07_Exactly.j1 kq x1_10 t793 1 a0 t794 0 0 x796005_21 = some (r1, r2, r3, r4, r5, r6)) ∧ Aside0 (kq ≤ kj10) ∧ Aside0 (Kd.R (Kd.int .i64) 3 wc w0.heap.size (fun k_ => (P1_ k_ ∨ w.heap.size ≤ k_)) (.slice Ao23 x1_10.length co23) x1_10) ∧ Aside0 (wc.heap[gb792]? = some (.cells #[.int .i64 0, .bool false, .int .i64 0, .int .u64 0, .int .u64 0, .bool false] 86 (0, 0))) ∧ Aside0 (wc.heap[gb795]? = some (.cells #[.int .i64 1, .bool a0, .int .i64 t794, .int .u64 0, .int .u64 0, .bool x796005_21] 86 (0, 0))) ∧ Aside0 (Kept w wc (fun k_ => P1_ k_)) ∧ Aside0 (Below w0.heap.size w0 wc))
     case first =>
      have H := HC22.out
      clear HC22
      by_cases c24 : a3 = true
      ·subst c24
       rw [if_pos rfl] at H
       have H' := Aside0.mk H
       clear H
       have hnb25 := NB795_792.out
       have hnc25 := NB792_795.out
       obtain ⟨z26_0, z26_1, z26_2, z26_3, z26_4, z26_5, y26_0, y26_1, y26_2, y26_3, y26_4, y26_5⟩ := cz6 BK795
       go_wp2
       go_meet
       case rel => exact ⟨_, (true), H', ⟨by have := HJ10.out; first | omega | exact Nat.le_refl _⟩, ⟨by (with_reducible repeat (first | apply Kd.R_alloc | apply Kd.R_drewN | apply Kd.R_drew)); exact Kd.R_mono (Kd.R_far (p := ⟨gb795, 5, none⟩) (Kd.R_types HO_1.out BK795.out (by decide)) (fun _ hk => hk.2) (.bool true)) (fun _ hk => hk.1)⟩, ⟨bkT BK792⟩, ⟨bkT BK795⟩, ⟨by repeat (first | (with_reducible first | exact HK.out | apply Kept.alloc | apply Kept.drewN | apply Kept.drew | refine Kept.setCell ?_ (.inr GW792.out) _ | refine Kept.setCell ?_ (.inr GW795.out) _) | exact HK.out)⟩, ⟨hbT⟩⟩
      ·replace c24 := Bool.eq_false_iff.mpr c24
       subst c24
       rw [if_neg (show ¬ (false = true) by decide)] at H
       have H' := Aside0.mk H
       clear H
       have hnb27 := NB795_792.out
       have hnc27 := NB792_795.out
       obtain ⟨z28_0, z28_1, z28_2, z28_3, z28_4, z28_5, y28_0, y28_1, y28_2, y28_3, y28_4, y28_5⟩ := cz6 BK795
       go_wp2
       go_meet
       case rel => exact ⟨_, (t799), H', ⟨by have := HJ10.out; first | omega | exact Nat.le_refl _⟩, ⟨by (with_reducible repeat (first | apply Kd.R_alloc | apply Kd.R_drewN | apply Kd.R_drew)); exact Kd.R_mono (Kd.R_far (p := ⟨gb795, 5, none⟩) (Kd.R_types HO_1.out BK795.out (by decide)) (fun _ hk => hk.2) (.bool t799)) (fun _ hk => hk.1)⟩, ⟨bkT BK792⟩, ⟨bkT BK795⟩, ⟨by repeat (first | (with_reducible first | exact HK.out | apply Kept.alloc | apply Kept.drewN | apply Kept.drew | refine Kept.setCell ?_ (.inr GW792.out) _ | refine Kept.setCell ?_ (.inr GW795.out) _) | exact HK.out)⟩, ⟨hbT⟩⟩
     case rest =>
      clear HC22
      try clear c20
      try clear c20b0
      obtain ⟨kq, x796005_21, HA, HJ21, HO_1, BK792, BK795, HK, HB⟩ := hcut
      cases kq with
      | zero => exact absurd HA.out (by simp [vernierref07_Exactly.j1])
      | succ kj21 =>
       have H := HA.out
       clear HA
       simp only [vernierref07_Exactly.j1] at H
       replace H := Option.bind_eq_some_iff.mp H
       obtain ⟨t800, A290, H⟩ := H
       try dsimp only at H
       have A29 := Aside0.mk A290
       clear A290
       replace H := Option.bind_eq_some_iff.mp H
       obtain ⟨t803, A300, H⟩ := H
       try dsimp only at H
       have A30 := Aside0.mk A300
       clear A300
       replace H := Option.bind_eq_some_iff.mp H
       obtain ⟨t804, A310, H⟩ := H
       try dsimp only at H
       have A31 := Aside0.mk A310
       clear A310
       replace H := Option.bind_eq_some_iff.mp H
       obtain ⟨t807, A320, H⟩ := H
       try dsimp only at H
       have A32 := Aside0.mk A320
       clear A320
       simp only [Option.some.injEq, Prod.mk.injEq] at H
       obtain ⟨rfl, rfl, rfl, rfl, rfl, rfl⟩ := H
       go_wp2_with (first | ((with_reducible refine gate_callee (f := 146) rfl ?_); refine goesL_ (some 45) rfl rfl Try.func146 (by kernel_rfl) rfl #[.slice Ao23 x1_10.length co23, .int .i64 (wrap64 (t793 - 128))] rfl (by (try simp only [List.map_toArray, List.map_cons, List.map_nil]); first | done | rfl | (simp only [List.length_drop, List.length_take]; rfl)) ?_; (with_reducible refine (vernierref04_Shr.calls kj21 _ _ x1_10 (wrap64 (t793 - 128)) t800 _ ?side1 ?side2 A29.out).mono ?_); (case side1 => repeat (first | exact (Kd.R_reads' HO_1.out).2.2 | (with_reducible refine Kd.C_alloc ?_ _) | (with_reducible refine Kd.C_drewN ?_ _) | (with_reducible refine Kd.C_drew ?_))); (case side2 => exact (Kd.R_reads' HO_1.out).2.1); rintro e w33 ⟨v801, rfl, ho0, hb⟩; refine ⟨_, rfl, ?_⟩; have n0_ := Aside0.mk (Kd.R_elder' (by (with_reducible repeat (first | apply Kd.R_alloc | apply Kd.R_drewN | apply Kd.R_drew)); exact HO_1.out) (Kd.R_base ho0) hb); have n1_ := Aside0.mk (Kd.R_lower (Kd.R_new' (Kd.R_newM (M := fun k_ => (P1_ k_ ∨ w.heap.size ≤ k_)) ho0 (by first | exact HK.out.1 | exact (show Kept w _ (fun k_ => P1_ k_) from by repeat (first | (with_reducible first | exact HK.out | apply Kept.alloc | apply Kept.drewN | apply Kept.drew | refine Kept.setCell ?_ (.inr GW792.out) _ | refine Kept.setCell ?_ (.inr GW795.out) _) | exact HK.out)).1) (fun k_ h_ => .inr h_)) (Kd.R_lt (by (with_reducible repeat (first | apply Kd.R_alloc | apply Kd.R_drewN | apply Kd.R_drew)); exact HO_1.out))) (below_size hbT)); have n2_ := bkB BK792 hb; have n3_ := bkB BK795 hb; have n4_ := Aside0.mk (Kept.below (S := (fun k_ => P1_ k_)) (by repeat (first | (with_reducible first | exact HK.out | apply Kept.alloc | apply Kept.drewN | apply Kept.drew | refine Kept.setCell ?_ (.inr GW792.out) _ | refine Kept.setCell ?_ (.inr GW795.out) _) | exact HK.out)) hb); have n5_ := hbS hb; clear HO_1; clear BK792; clear BK795; clear HK; clear HB; have HO_1 := n0_; have HO802 := n1_; have BK792 := n2_; have BK795 := n3_; have HK := n4_; have HB := n5_; clear n0_ n1_ n2_ n3_ n4_ n5_; (try clear hb); (try clear hb2); (try clear hk); (try clear hi); (try clear ho0); obtain ⟨Ao34, co34, eo34⟩ := Kd.R_slice HO802.out; subst eo34) | ((with_reducible refine gate_callee (f := 147) rfl ?_); refine goesL_ (some 47) rfl rfl Try.func147 (by kernel_rfl) rfl #[.slice Ao34 t800.length co34] rfl (by (try simp only [List.map_toArray, List.map_cons, List.map_nil]); first | done | rfl | (simp only [List.length_drop, List.length_take]; rfl)) ?_; (with_reducible refine (vernierref04_Word.calls kj21 _ _ t800 t803 _ ?side1 ?side2 A30.out).mono ?_); (case side1 => repeat (first | exact (Kd.R_reads' HO802.out).2.2 | (with_reducible refine Kd.C_alloc ?_ _) | (with_reducible refine Kd.C_drewN ?_ _) | (with_reducible refine Kd.C_drew ?_))); (case side2 => exact (Kd.R_reads' HO802.out).2.1); rintro e w' ⟨rfl, ⟨nd, rfl⟩⟩; refine ⟨_, rfl, ?_⟩; (try (rw [drewN_self w33]; generalize hq_ : World.drewN w33 _ = w33; have n0_ : Aside0 (Kd.R (Kd.int .i64) 3 w33 w0.heap.size (fun k_ => (P1_ k_ ∨ w.heap.size ≤ k_) ∧ some k_ ≠ (.slice Ao23 x1_10.length co23 : Value).ownBlock) (.slice Ao34 t800.length co34) t800) := ⟨by rw [← hq_]; exact (by (with_reducible repeat (first | apply Kd.R_alloc | apply Kd.R_drewN | apply Kd.R_drew)); exact Kd.R_mono HO802.out (fun _ hk => ⟨hk.1.1, hk.2⟩))⟩; have n1_ : Aside0 (Kd.R (Kd.int .i64) 3 w33 w0.heap.size (fun k_ => (P1_ k_ ∨ w.heap.size ≤ k_) ∧ some k_ ≠ (.slice Ao34 t800.length co34 : Value).ownBlock) (.slice Ao23 x1_10.length co23) x1_10) := ⟨by rw [← hq_]; exact (by (with_reducible repeat (first | apply Kd.R_alloc | apply Kd.R_drewN | apply Kd.R_drew)); exact HO_1.out)⟩; have n2_ : Aside0 (w33.heap[gb792]? = some (.cells #[.int .i64 0, .bool false, .int .i64 0, .int .u64 0, .int .u64 0, .bool false] 86 (0, 0))) := ⟨by rw [← hq_]; exact (bkT BK792)⟩; have n3_ : Aside0 (w33.heap[gb795]? = some (.cells #[.int .i64 1, .bool a0, .int .i64 t794, .int .u64 0, .int .u64 0, .bool x796005_21] 86 (0, 0))) := ⟨by rw [← hq_]; exact (bkT BK795)⟩; have n4_ : Aside0 (Kept w w33 (fun k_ => P1_ k_)) := ⟨by rw [← hq_]; exact (by repeat (first | (with_reducible first | exact HK.out | apply Kept.alloc | apply Kept.drewN | apply Kept.drew | refine Kept.setCell ?_ (.inr GW792.out) _ | refine Kept.setCell ?_ (.inr GW795.out) _) | exact HK.out))⟩; have n5_ : Aside0 (Below w0.heap.size w0 w33) := ⟨by rw [← hq_]; exact hbT⟩; clear HO802 HO_1 BK792 BK795 HK HB hq_; have HO802 := n0_; have HO_1 := n1_; have BK792 := n2_; have BK795 := n3_; have HK := n4_; have HB := n5_; clear n0_ n1_ n2_ n3_ n4_ n5_)); have hnb35 := NB795_792.out; have hnc35 := NB792_795.out; obtain ⟨z36_0, z36_1, z36_2, z36_3, z36_4, z36_5, y36_0, y36_1, y36_2, y36_3, y36_4, y36_5⟩ := cz6 BK795) | ((with_reducible refine gate_callee (f := 146) rfl ?_); refine goesL_ (some 50) rfl rfl Try.func146 (by kernel_rfl) rfl #[.slice Ao34 t800.length co34, .int .i64 64] rfl (by (try simp only [List.map_toArray, List.map_cons, List.map_nil]); first | done | rfl | (simp only [List.length_drop, List.length_take]; rfl)) ?_; (with_reducible refine (vernierref04_Shr.calls kj21 _ _ t800 64 t804 _ ?side1 ?side2 A31.out).mono ?_); (case side1 => refine (Kd.R_reads' (e := 3) (base := w0.heap.size) (ok := fun k_ => ((P1_ k_ ∨ w.heap.size ≤ k_) ∧ some k_ ≠ (.slice Ao23 x1_10.length co23 : Value).ownBlock)) (n := t800.length) (c := co34) ?_).2.2; exact (by (with_reducible repeat (first | apply Kd.R_alloc | apply Kd.R_drewN | apply Kd.R_drew)); exact (Kd.R_mono (Kd.R_far (p := ⟨gb795, 4, none⟩) (Kd.R_types HO802.out BK795.out (by decide)) (fun _ hk => hk.2) (.int .u64 t803)) (fun _ h_ => h_.1)))); (case side2 => exact (Kd.R_reads' HO802.out).2.1); rintro e w37 ⟨v805, rfl, ho0, hb⟩; refine ⟨_, rfl, ?_⟩; have n0_ := Aside0.mk (Kd.R_elder' (by (with_reducible repeat (first | apply Kd.R_alloc | apply Kd.R_drewN | apply Kd.R_drew)); exact (Kd.R_mono (Kd.R_far (p := ⟨gb795, 4, none⟩) (Kd.R_types HO_1.out BK795.out (by decide)) (fun _ hk => hk.2) (.int .u64 t803)) (fun _ h_ => h_.1))) (Kd.R_base ho0) hb); have n1_ := Aside0.mk (Kd.R_elder' (by (with_reducible repeat (first | apply Kd.R_alloc | apply Kd.R_drewN | apply Kd.R_drew)); exact (Kd.R_mono (Kd.R_far (p := ⟨gb795, 4, none⟩) (Kd.R_types HO802.out BK795.out (by decide)) (fun _ hk => hk.2) (.int .u64 t803)) (fun _ h_ => h_.1))) (Kd.R_base ho0) hb); have n2_ := Aside0.mk (Kd.R_lower (Kd.R_new' (Kd.R_new' (Kd.R_newM (M := fun k_ => (P1_ k_ ∨ w.heap.size ≤ k_)) ho0 (show Kept w _ (fun k_ => P1_ k_) from by repeat (first | (with_reducible first | exact HK.out | apply Kept.alloc | apply Kept.drewN | apply Kept.drew | refine Kept.setCell ?_ (.inr GW792.out) _ | refine Kept.setCell ?_ (.inr GW795.out) _) | exact HK.out)).1 (fun k_ h_ => .inr h_)) (Kd.R_lt (by (with_reducible repeat (first | apply Kd.R_alloc | apply Kd.R_drewN | apply Kd.R_drew)); exact (Kd.R_mono (Kd.R_far (p := ⟨gb795, 4, none⟩) (Kd.R_types HO_1.out BK795.out (by decide)) (fun _ hk => hk.2) (.int .u64 t803)) (fun _ h_ => h_.1))))) (Kd.R_lt (by (with_reducible repeat (first | apply Kd.R_alloc | apply Kd.R_drewN | apply Kd.R_drew)); exact (Kd.R_mono (Kd.R_far (p := ⟨gb795, 4, none⟩) (Kd.R_types HO802.out BK795.out (by decide)) (fun _ hk => hk.2) (.int .u64 t803)) (fun _ h_ => h_.1))))) (below_size hbT)); have n3_ := bkB BK792 hb; have n4_ := bkB (o := .cells #[.int .i64 1, .bool a0, .int .i64 t794, .int .u64 0, .int .u64 t803, .bool x796005_21] 86 (0, 0)) BK795 hb; have n5_ := Aside0.mk (Kept.below (S := (fun k_ => P1_ k_)) (by repeat (first | (with_reducible first | exact HK.out | apply Kept.alloc | apply Kept.drewN | apply Kept.drew | refine Kept.setCell ?_ (.inr GW792.out) _ | refine Kept.setCell ?_ (.inr GW795.out) _) | exact HK.out)) hb); have n6_ := hbS hb; clear HO_1; clear HO802; clear BK792; clear BK795; clear HK; clear HB; have HO_1 := n0_; have HO802 := n1_; have HO806 := n2_; have BK792 := n3_; have BK795 := n4_; have HK := n5_; have HB := n6_; clear n0_ n1_ n2_ n3_ n4_ n5_ n6_; (try clear hb); (try clear hb2); (try clear hk); (try clear hi); (try clear ho0); obtain ⟨Ao38, co38, eo38⟩ := Kd.R_slice HO806.out; subst eo38) | ((with_reducible refine gate_callee (f := 147) rfl ?_); refine goesL_ (some 51) rfl rfl Try.func147 (by kernel_rfl) rfl #[.slice Ao38 t804.length co38] rfl (by (try simp only [List.map_toArray, List.map_cons, List.map_nil]); first | done | rfl | (simp only [List.length_drop, List.length_take]; rfl)) ?_; (with_reducible refine (vernierref04_Word.calls kj21 _ _ t804 t807 _ ?side1 ?side2 A32.out).mono ?_); (case side1 => repeat (first | exact (Kd.R_reads' HO806.out).2.2 | (with_reducible refine Kd.C_alloc ?_ _) | (with_reducible refine Kd.C_drewN ?_ _) | (with_reducible refine Kd.C_drew ?_))); (case side2 => exact (Kd.R_reads' HO806.out).2.1); rintro e w' ⟨rfl, ⟨nd, rfl⟩⟩; refine ⟨_, rfl, ?_⟩; (try (rw [drewN_self w37]; generalize hq_ : World.drewN w37 _ = w37; have n0_ : Aside0 (Kd.R (Kd.int .i64) 3 w37 w0.heap.size (fun k_ => (P1_ k_ ∨ w.heap.size ≤ k_) ∧ some k_ ≠ (.slice Ao38 t804.length co38 : Value).ownBlock ∧ some k_ ≠ (.slice Ao23 x1_10.length co23 : Value).ownBlock) (.slice Ao34 t800.length co34) t800) := ⟨by rw [← hq_]; exact (by (with_reducible repeat (first | apply Kd.R_alloc | apply Kd.R_drewN | apply Kd.R_drew)); exact Kd.R_mono HO802.out (fun _ hk => ⟨hk.1.1.1, ⟨hk.2, hk.1.2⟩⟩))⟩; have n1_ : Aside0 (Kd.R (Kd.int .i64) 3 w37 w0.heap.size (fun k_ => (P1_ k_ ∨ w.heap.size ≤ k_) ∧ some k_ ≠ (.slice Ao34 t800.length co34 : Value).ownBlock ∧ some k_ ≠ (.slice Ao23 x1_10.length co23 : Value).ownBlock) (.slice Ao38 t804.length co38) t804) := ⟨by rw [← hq_]; exact (by (with_reducible repeat (first | apply Kd.R_alloc | apply Kd.R_drewN | apply Kd.R_drew)); exact Kd.R_mono HO806.out (fun _ hk => ⟨hk.1.1.1, ⟨hk.2, hk.1.2⟩⟩))⟩; have n2_ : Aside0 (Kd.R (Kd.int .i64) 3 w37 w0.heap.size (fun k_ => (P1_ k_ ∨ w.heap.size ≤ k_) ∧ some k_ ≠ (.slice Ao34 t800.length co34 : Value).ownBlock ∧ some k_ ≠ (.slice Ao38 t804.length co38 : Value).ownBlock) (.slice Ao23 x1_10.length co23) x1_10) := ⟨by rw [← hq_]; exact (by (with_reducible repeat (first | apply Kd.R_alloc | apply Kd.R_drewN | apply Kd.R_drew)); exact Kd.R_mono HO_1.out (fun _ hk => ⟨hk.1.1, ⟨hk.1.2, hk.2⟩⟩))⟩; have n3_ : Aside0 (w37.heap[gb792]? = some (.cells #[.int .i64 0, .bool false, .int .i64 0, .int .u64 0, .int .u64 0, .bool false] 86 (0, 0))) := ⟨by rw [← hq_]; exact (bkT BK792)⟩; have n4_ : Aside0 (w37.heap[gb795]? = some (.cells #[.int .i64 1, .bool a0, .int .i64 t794, .int .u64 0, .int .u64 t803, .bool x796005_21] 86 (0, 0))) := ⟨by rw [← hq_]; exact (bkT BK795)⟩; have n5_ : Aside0 (Kept w w37 (fun k_ => P1_ k_)) := ⟨by rw [← hq_]; exact (by repeat (first | (with_reducible first | exact HK.out | apply Kept.alloc | apply Kept.drewN | apply Kept.drew | refine Kept.setCell ?_ (.inr GW792.out) _ | refine Kept.setCell ?_ (.inr GW795.out) _) | exact HK.out))⟩; have n6_ : Aside0 (Below w0.heap.size w0 w37) := ⟨by rw [← hq_]; exact hbT⟩; clear HO802 HO806 HO_1 BK792 BK795 HK HB hq_; have HO802 := n0_; have HO806 := n1_; have HO_1 := n2_; have BK792 := n3_; have BK795 := n4_; have HK := n5_; have HB := n6_; clear n0_ n1_ n2_ n3_ n4_ n5_ n6_)); obtain ⟨z39_0, z39_1, z39_2, z39_3, z39_4, z39_5, y39_0, y39_1, y39_2, y39_3, y39_4, y39_5⟩ := cz6 BK795; obtain ⟨z40_0, z40_1, z40_2, z40_3, z40_4, z40_5, y40_0, y40_1, y40_2, y40_3, y40_4, y40_5⟩ := cz6 BK792))
       refine bodyPost_ret (results_cell_row rfl _ _ gb792 86 #[.int .i64 1, .bool a0, .int .i64 t794, .int .u64 t807, .int .u64 t803, .bool x796005_21] (0, 0) _ rfl (bkT BK792) Try.underlying86 rfl (by kernel_rfl)) rfl ?_
       exact ⟨reT, hbT, by repeat (first | (with_reducible first | exact HK.out | apply Kept.alloc | apply Kept.drewN | apply Kept.drew | refine Kept.setCell ?_ (.inr GW792.out) _ | refine Kept.setCell ?_ (.inr GW795.out) _) | exact HK.out)⟩
    ·rw [if_neg c20] at H
     have c20b0 : decide (128 < t793) = false := decide_eq_false c20
     clear c20
     replace H := Option.bind_eq_some_iff.mp H
     obtain ⟨t808, A410, H⟩ := H
     try dsimp only at H
     have A41 := Aside0.mk A410
     clear A410
     replace H := Option.bind_eq_some_iff.mp H
     obtain ⟨t809, A420, H⟩ := H
     try dsimp only at H
     have A42 := Aside0.mk A420
     clear A420
     replace H := Option.bind_eq_some_iff.mp H
     obtain ⟨t812, A430, H⟩ := H
     try dsimp only at H
     have A43 := Aside0.mk A430
     clear A430
     simp only [Option.some.injEq, Prod.mk.injEq] at H
     obtain ⟨rfl, rfl, rfl, rfl, rfl, rfl⟩ := H
     obtain ⟨Ao44, co44, eo44⟩ := Kd.R_slice HO_1.out
     subst eo44
     go_wp2_with (first | ((with_reducible refine gate_callee (f := 147) rfl ?_); refine goesL_ (some 47) rfl rfl Try.func147 (by kernel_rfl) rfl #[.slice Ao44 x1_10.length co44] rfl (by (try simp only [List.map_toArray, List.map_cons, List.map_nil]); first | done | rfl | (simp only [List.length_drop, List.length_take]; rfl)) ?_; (with_reducible refine (vernierref04_Word.calls kj10 _ _ x1_10 t808 _ ?side1 ?side2 A41.out).mono ?_); (case side1 => repeat (first | exact (Kd.R_reads' HO_1.out).2.2 | (with_reducible refine Kd.C_alloc ?_ _) | (with_reducible refine Kd.C_drewN ?_ _) | (with_reducible refine Kd.C_drew ?_))); (case side2 => exact (Kd.R_reads' HO_1.out).2.1); rintro e w' ⟨rfl, ⟨nd, rfl⟩⟩; refine ⟨_, rfl, ?_⟩; (try (rw [drewN_self wc]; generalize hq_ : World.drewN wc _ = wc; have n0_ : Aside0 (Kd.R (Kd.int .i64) 3 wc w0.heap.size (fun k_ => (P1_ k_ ∨ w.heap.size ≤ k_)) (.slice Ao44 x1_10.length co44) x1_10) := ⟨by rw [← hq_]; exact (by (with_reducible repeat (first | apply Kd.R_alloc | apply Kd.R_drewN | apply Kd.R_drew)); exact HO_1.out)⟩; have n1_ : Aside0 (wc.heap[gb792]? = some (.cells #[.int .i64 0, .bool false, .int .i64 0, .int .u64 0, .int .u64 0, .bool false] 86 (0, 0))) := ⟨by rw [← hq_]; exact (bkT BK792)⟩; have n2_ : Aside0 (wc.heap[gb795]? = some (.cells #[.int .i64 1, .bool a0, .int .i64 t794, .int .u64 0, .int .u64 0, .bool a3] 86 (0, 0))) := ⟨by rw [← hq_]; exact (bkT BK795)⟩; have n3_ : Aside0 (Kept w wc (fun k_ => P1_ k_)) := ⟨by rw [← hq_]; exact (by repeat (first | (with_reducible first | exact HK.out | apply Kept.alloc | apply Kept.drewN | apply Kept.drew | refine Kept.setCell ?_ (.inr GW792.out) _ | refine Kept.setCell ?_ (.inr GW795.out) _) | exact HK.out))⟩; have n4_ : Aside0 (Below w0.heap.size w0 wc) := ⟨by rw [← hq_]; exact hbT⟩; clear HO_1 BK792 BK795 HK HB hq_; have HO_1 := n0_; have BK792 := n1_; have BK795 := n2_; have HK := n3_; have HB := n4_; clear n0_ n1_ n2_ n3_ n4_)); have hnb45 := NB795_792.out; have hnc45 := NB792_795.out; obtain ⟨z46_0, z46_1, z46_2, z46_3, z46_4, z46_5, y46_0, y46_1, y46_2, y46_3, y46_4, y46_5⟩ := cz6 BK795) | ((with_reducible refine gate_callee (f := 146) rfl ?_); refine goesL_ (some 50) rfl rfl Try.func146 (by kernel_rfl) rfl #[.slice Ao44 x1_10.length co44, .int .i64 64] rfl (by (try simp only [List.map_toArray, List.map_cons, List.map_nil]); first | done | rfl | (simp only [List.length_drop, List.length_take]; rfl)) ?_; (with_reducible refine (vernierref04_Shr.calls kj10 _ _ x1_10 64 t809 _ ?side1 ?side2 A42.out).mono ?_); (case side1 => refine (Kd.R_reads' (e := 3) (base := w0.heap.size) (ok := fun k_ => (P1_ k_ ∨ w.heap.size ≤ k_)) (n := x1_10.length) (c := co44) ?_).2.2; exact (by (with_reducible repeat (first | apply Kd.R_alloc | apply Kd.R_drewN | apply Kd.R_drew)); exact (Kd.R_mono (Kd.R_far (p := ⟨gb795, 4, none⟩) (Kd.R_types HO_1.out BK795.out (by decide)) (fun _ hk => hk.2) (.int .u64 t808)) (fun _ h_ => h_.1)))); (case side2 => exact (Kd.R_reads' HO_1.out).2.1); rintro e w47 ⟨v810, rfl, ho0, hb⟩; refine ⟨_, rfl, ?_⟩; have n0_ := Aside0.mk (Kd.R_elder' (by (with_reducible repeat (first | apply Kd.R_alloc | apply Kd.R_drewN | apply Kd.R_drew)); exact (Kd.R_mono (Kd.R_far (p := ⟨gb795, 4, none⟩) (Kd.R_types HO_1.out BK795.out (by decide)) (fun _ hk => hk.2) (.int .u64 t808)) (fun _ h_ => h_.1))) (Kd.R_base ho0) hb); have n1_ := Aside0.mk (Kd.R_lower (Kd.R_new' (Kd.R_newM (M := fun k_ => (P1_ k_ ∨ w.heap.size ≤ k_)) ho0 (show Kept w _ (fun k_ => P1_ k_) from by repeat (first | (with_reducible first | exact HK.out | apply Kept.alloc | apply Kept.drewN | apply Kept.drew | refine Kept.setCell ?_ (.inr GW792.out) _ | refine Kept.setCell ?_ (.inr GW795.out) _) | exact HK.out)).1 (fun k_ h_ => .inr h_)) (Kd.R_lt (by (with_reducible repeat (first | apply Kd.R_alloc | apply Kd.R_drewN | apply Kd.R_drew)); exact (Kd.R_mono (Kd.R_far (p := ⟨gb795, 4, none⟩) (Kd.R_types HO_1.out BK795.out (by decide)) (fun _ hk => hk.2) (.int .u64 t808)) (fun _ h_ => h_.1))))) (below_size hbT)); have n2_ := bkB BK792 hb; have n3_ := bkB (o := .cells #[.int .i64 1, .bool a0, .int .i64 t794, .int .u64 0, .int .u64 t808, .bool a3] 86 (0, 0)) BK795 hb; have n4_ := Aside0.mk (Kept.below (S := (fun k_ => P1_ k_)) (by repeat (first | (with_reducible first | exact HK.out | apply Kept.alloc | apply Kept.drewN | apply Kept.drew | refine Kept.setCell ?_ (.inr GW792.out) _ | refine Kept.setCell ?_ (.inr GW795.out) _) | exact HK.out)) hb); have n5_ := hbS hb; clear HO_1; clear BK792; clear BK795; clear HK; clear HB; have HO_1 := n0_; have HO811 := n1_; have BK792 := n2_; have BK795 := n3_; have HK := n4_; have HB := n5_; clear n0_ n1_ n2_ n3_ n4_ n5_; (try clear hb); (try clear hb2); (try clear hk); (try clear hi); (try clear ho0); obtain ⟨Ao48, co48, eo48⟩ := Kd.R_slice HO811.out; subst eo48) | ((with_reducible refine gate_callee (f := 147) rfl ?_); refine goesL_ (some 51) rfl rfl Try.func147 (by kernel_rfl) rfl #[.slice Ao48 t809.length co48] rfl (by (try simp only [List.map_toArray, List.map_cons, List.map_nil]); first | done | rfl | (simp only [List.length_drop, List.length_take]; rfl)) ?_; (with_reducible refine (vernierref04_Word.calls kj10 _ _ t809 t812 _ ?side1 ?side2 A43.out).mono ?_); (case side1 => repeat (first | exact (Kd.R_reads' HO811.out).2.2 | (with_reducible refine Kd.C_alloc ?_ _) | (with_reducible refine Kd.C_drewN ?_ _) | (with_reducible refine Kd.C_drew ?_))); (case side2 => exact (Kd.R_reads' HO811.out).2.1); rintro e w' ⟨rfl, ⟨nd, rfl⟩⟩; refine ⟨_, rfl, ?_⟩; (try (rw [drewN_self w47]; generalize hq_ : World.drewN w47 _ = w47; have n0_ : Aside0 (Kd.R (Kd.int .i64) 3 w47 w0.heap.size (fun k_ => (P1_ k_ ∨ w.heap.size ≤ k_) ∧ some k_ ≠ (.slice Ao44 x1_10.length co44 : Value).ownBlock) (.slice Ao48 t809.length co48) t809) := ⟨by rw [← hq_]; exact (by (with_reducible repeat (first | apply Kd.R_alloc | apply Kd.R_drewN | apply Kd.R_drew)); exact Kd.R_mono HO811.out (fun _ hk => ⟨hk.1.1, hk.2⟩))⟩; have n1_ : Aside0 (Kd.R (Kd.int .i64) 3 w47 w0.heap.size (fun k_ => (P1_ k_ ∨ w.heap.size ≤ k_) ∧ some k_ ≠ (.slice Ao48 t809.length co48 : Value).ownBlock) (.slice Ao44 x1_10.length co44) x1_10) := ⟨by rw [← hq_]; exact (by (with_reducible repeat (first | apply Kd.R_alloc | apply Kd.R_drewN | apply Kd.R_drew)); exact HO_1.out)⟩; have n2_ : Aside0 (w47.heap[gb792]? = some (.cells #[.int .i64 0, .bool false, .int .i64 0, .int .u64 0, .int .u64 0, .bool false] 86 (0, 0))) := ⟨by rw [← hq_]; exact (bkT BK792)⟩; have n3_ : Aside0 (w47.heap[gb795]? = some (.cells #[.int .i64 1, .bool a0, .int .i64 t794, .int .u64 0, .int .u64 t808, .bool a3] 86 (0, 0))) := ⟨by rw [← hq_]; exact (bkT BK795)⟩; have n4_ : Aside0 (Kept w w47 (fun k_ => P1_ k_)) := ⟨by rw [← hq_]; exact (by repeat (first | (with_reducible first | exact HK.out | apply Kept.alloc | apply Kept.drewN | apply Kept.drew | refine Kept.setCell ?_ (.inr GW792.out) _ | refine Kept.setCell ?_ (.inr GW795.out) _) | exact HK.out))⟩; have n5_ : Aside0 (Below w0.heap.size w0 w47) := ⟨by rw [← hq_]; exact hbT⟩; clear HO811 HO_1 BK792 BK795 HK HB hq_; have HO811 := n0_; have HO_1 := n1_; have BK792 := n2_; have BK795 := n3_; have HK := n4_; have HB := n5_; clear n0_ n1_ n2_ n3_ n4_ n5_)); obtain ⟨z49_0, z49_1, z49_2, z49_3, z49_4, z49_5, y49_0, y49_1, y49_2, y49_3, y49_4, y49_5⟩ := cz6 BK795; obtain ⟨z50_0, z50_1, z50_2, z50_3, z50_4, z50_5, y50_0, y50_1, y50_2, y50_3, y50_4, y50_5⟩ := cz6 BK792))
     refine bodyPost_ret (results_cell_row rfl _ _ gb792 86 #[.int .i64 1, .bool a0, .int .i64 t794, .int .u64 t812, .int .u64 t808, .bool a3] (0, 0) _ rfl (bkT BK792) Try.underlying86 rfl (by kernel_rfl)) rfl ?_
     exact ⟨reT, hbT, by repeat (first | (with_reducible first | exact HK.out | apply Kept.alloc | apply Kept.drewN | apply Kept.drew | refine Kept.setCell ?_ (.inr GW792.out) _ | refine Kept.setCell ?_ (.inr GW795.out) _) | exact HK.out)⟩
end Go.Proofs.Ytnlbfomlfhigcaa.Q
namespace Go.Proofs.Ytnlbfomlfhigcaa.Q
open Go.RowKit Go.Proofs.YtnlbfomlfhigcaaW.PrintWords Go.Proofs.YtnlbfomlfhigcaaW.PrintLast Go.Proofs.YtnlbfomlfhigcaaW.PrintMore
attribute [local go_sem] max2_int min2_int max_two min_two max_three min_three max_four min_four
set_option linter.unusedVariables false
set_option linter.unusedSimpArgs false
mutual
def vernierref04_Add.l0 : Nat → List Int → List Int → List Int → Int → Int → Option (List Int)
 | 0, _, _, _, _, _ => none
 | k + 1, x0, x1, x5, x6, x7 => if x7 < (x0.length : Int) then (vernierref04_Add.j1 k x0 x1 x5 x6 x7 true) else (if x7 < (x1.length : Int) then (vernierref04_Add.j1 k x0 x1 x5 x6 x7 true) else (vernierref04_Add.j1 k x0 x1 x5 x6 x7 (decide (x6 > 0))))
def vernierref04_Add.j1 : Nat → List Int → List Int → List Int → Int → Int → Bool → Option (List Int)
 | 0, _, _, _, _, _, _ => none
 | k + 1, x0, x1, x5, x6, x7, x22 => if x22 = true then ((vernierref04_digit.f x0 x7).bind fun t813 => ((vernierref04_digit.f x1 x7).bind fun t814 => (if x5.length < 17592186044416 then (vernierref04_Add.l0 k x0 x1 (x5 ++ [Int.tmod (wrap64 ((wrap64 (t813 + t814)) + x6)) 16777216]) (wrap64 (Int.tdiv (wrap64 ((wrap64 (t813 + t814)) + x6)) 16777216)) (wrap64 (x7 + 1))) else (none)))) else (some x5)
end
def vernierref04_Add.f (k : Nat) (l0 : List Int) (l1 : List Int) : Option (List Int) := vernierref04_Add.l0 k l0 l1 ([] : List Int) 0 0
set_option maxHeartbeats 8000000 in
set_option maxRecDepth 100000 in
theorem vernierref04_Add.calls (k : Nat) (A0 : Option Addr) (c0 : Nat) (l0 : List Int) (A1 : Option Addr) (c1 : Nat) (l1 : List Int) (r : List Int) (w : World) (hr0 : Kd.C (Kd.int .i64) w A0 l0.length l0) (hc0 : l0.length ≤ c0) (hr1 : Kd.C (Kd.int .i64) w A1 l1.length l1) (hc1 : l1.length ≤ c1) (h : vernierref04_Add.f k l0 l1 = some r) :
  Calls Try.prog 116 #[.slice A0 l0.length c0, .slice A1 l1.length c1] w fun e w' => ∃ v0_ : Value, e = .returned (v0_) ∧ Kd.R (Kd.int .i64) 3 w' w.heap.size (fun _ => True) v0_ r ∧ Below w.heap.size w w' := by
 have HR0 := Aside0.mk hr0
 have HC0 := Aside0.mk hc0
 clear hr0 hc0
 have HR1 := Aside0.mk hr1
 have HC1 := Aside0.mk hc1
 clear hr1 hc1
 have HB := Aside0.mk (Below.refl w.heap.size w)
 have H := h
 clear h
 unfold vernierref04_Add.f at H
 have H' := Aside0.mk H
 clear H
 go_enter Try.func116, Try.ntmps116
 go_wp2
 go_loopg [5, 6, 7] k (fun kq v5 v6 v7 w' => ∃ (x5_1 : List Int) (x6_1 : Int) (x7_1 : Int), v6 = .int .i64 x6_1 ∧ v7 = .int .i64 x7_1 ∧ Aside0 (vernierref04_Add.l0 kq l0 l1 x5_1 x6_1 x7_1 = some r) ∧ Aside0 (kq ≤ k) ∧ Aside0 (Kd.R (Kd.int .i64) 3 w' w.heap.size (fun _ => True) v5 x5_1) ∧ Aside0 (Below w.heap.size w w'))
 case atStart => exact ⟨(([] : List Int)), (0), (0), okT, okT, H', ⟨Nat.le_refl _⟩, ⟨by first | exact Kd.R_nil _ _ _ _ _ | exact Kd.N_nil _ _ _ _ _ | exact Kd.V_nil _ _ _ _ _ | exact Kd.Q_nil _ _ _ _ _ | exact Kd.S_nil _ _ _ _ _⟩, ⟨hbT⟩⟩
 case round =>
  clear H'
  obtain ⟨x5_1, x6_1, x7_1, rfl, rfl, HA, HK1, HO_5, HB⟩ := hrel
  cases gk with
  | zero => exact absurd HA.out (by simp [vernierref04_Add.l0])
  | succ k1 =>
   have H := HA.out
   clear HA
   simp only [vernierref04_Add.l0] at H
   have HC3 := Aside0.mk H
   clear H
   go_upto_region 4 with (fail)
   go_cut [22] (fun v22 wc => ∃ (kq : Nat) (x22_2 : Bool), v22 = .bool x22_2 ∧ Aside0 (vernierref04_Add.j1 kq l0 l1 x5_1 x6_1 x7_1 x22_2 = some r) ∧ Aside0 (kq ≤ k1) ∧ Aside0 (Kd.R (Kd.int .i64) 3 wc w.heap.size (fun _ => True) u5 x5_1) ∧ Aside0 (Below w.heap.size w wc))
   case first =>
    have H := HC3.out
    clear HC3
    by_cases c4 : x7_1 < (l0.length : Int)
    ·rw [if_pos c4] at H
     have c4b0 : decide (x7_1 < (l0.length : Int)) = true := decide_eq_true c4
     clear c4
     (first | rw [c4b0] | (simp only [i64_w, i32_w]; rw [c4b0]) | rw [c4b1] | skip)
     have H' := Aside0.mk H
     clear H
     go_wp2
     go_meet
     case rel => exact ⟨_, (true), okT, H', ⟨by have := HK1.out; first | omega | exact Nat.le_refl _⟩, ⟨by (with_reducible repeat (first | apply Kd.R_alloc | apply Kd.R_drewN | apply Kd.R_drew)); exact HO_5.out⟩, ⟨hbT⟩⟩
    ·rw [if_neg c4] at H
     have c4b0 : decide (x7_1 < (l0.length : Int)) = false := decide_eq_false c4
     clear c4
     (first | rw [c4b0] | (simp only [i64_w, i32_w]; rw [c4b0]) | rw [c4b1] | skip)
     by_cases c5 : x7_1 < (l1.length : Int)
     ·rw [if_pos c5] at H
      have c5b0 : decide (x7_1 < (l1.length : Int)) = true := decide_eq_true c5
      clear c5
      have H' := Aside0.mk H
      clear H
      go_wp2
      go_meet
      case rel => exact ⟨_, (true), okT, H', ⟨by have := HK1.out; first | omega | exact Nat.le_refl _⟩, ⟨by (with_reducible repeat (first | apply Kd.R_alloc | apply Kd.R_drewN | apply Kd.R_drew)); exact HO_5.out⟩, ⟨hbT⟩⟩
     ·rw [if_neg c5] at H
      have c5b0 : decide (x7_1 < (l1.length : Int)) = false := decide_eq_false c5
      clear c5
      have H' := Aside0.mk H
      clear H
      go_wp2
      go_meet
      case rel => exact ⟨_, (decide (x6_1 > 0)), okT, H', ⟨by have := HK1.out; first | omega | exact Nat.le_refl _⟩, ⟨by (with_reducible repeat (first | apply Kd.R_alloc | apply Kd.R_drewN | apply Kd.R_drew)); exact HO_5.out⟩, ⟨hbT⟩⟩
   case rest =>
    clear HC3
    obtain ⟨kq, x22_2, rfl, HA, HJ2, HO_5, HB⟩ := hcut
    cases kq with
    | zero => exact absurd HA.out (by simp [vernierref04_Add.j1])
    | succ kj2 =>
     have H := HA.out
     clear HA
     simp only [vernierref04_Add.j1] at H
     by_cases c6 : x22_2 = true
     ·subst c6
      rw [if_pos rfl] at H
      replace H := Option.bind_eq_some_iff.mp H
      obtain ⟨t813, A70, H⟩ := H
      try dsimp only at H
      have A7 := Aside0.mk A70
      clear A70
      replace H := Option.bind_eq_some_iff.mp H
      obtain ⟨t814, A80, H⟩ := H
      try dsimp only at H
      have A8 := Aside0.mk A80
      clear A80
      by_cases c9 : x5_1.length < 17592186044416
      ·rw [if_pos c9] at H
       have LMc9 := Aside0.mk c9
       clear c9
       obtain ⟨y815, hy815⟩ : ∃ y_ : List Int, y_ = (x5_1 ++ [Int.tmod (wrap64 ((wrap64 (t813 + t814)) + x6_1)) 16777216]) := ⟨_, rfl⟩
       replace H : (vernierref04_Add.l0 kj2 l0 l1 y815 (wrap64 (Int.tdiv (wrap64 ((wrap64 (t813 + t814)) + x6_1)) 16777216)) (wrap64 (x7_1 + 1))) = some r := by first | (rw [hy815]; with_reducible exact H) | (have H2_ := (Option.bind_some _ _).symm.trans H; rw [hy815]; with_reducible exact H2_) | (have H2_ := (Option.bind_some _ _).symm.trans H; with_reducible exact H2_) | with_reducible exact H | (rw [hy815]; exact H) | exact H
       have Ny815 := Aside0.mk hy815
       clear hy815
       have H' := Aside0.mk H
       clear H
       go_wp2_with (first | ((with_reducible refine gate_callee (f := 148) rfl ?_); refine goesL_ (some 27) rfl rfl Try.func148 (by kernel_rfl) rfl #[.slice A0 l0.length c0, .int .i64 x7_1] rfl (by (try simp only [List.map_toArray, List.map_cons, List.map_nil]); first | done | rfl | (simp only [List.length_drop, List.length_take]; rfl)) ?_; (with_reducible refine (vernierref04_digit.calls _ _ l0 x7_1 t813 _ ?side1 ?side2 A7.out).mono ?_); (case side1 => repeat (first | exact (Kd.C_below HR0.out HB.out) | (with_reducible refine Kd.C_alloc ?_ _) | (with_reducible refine Kd.C_drewN ?_ _) | (with_reducible refine Kd.C_drew ?_))); (case side2 => exact HC0.out); rintro e w' ⟨rfl, ⟨nd, rfl⟩⟩; refine ⟨_, rfl, ?_⟩) | ((with_reducible refine gate_callee (f := 148) rfl ?_); refine goesL_ (some 30) rfl rfl Try.func148 (by kernel_rfl) rfl #[.slice A1 l1.length c1, .int .i64 x7_1] rfl (by (try simp only [List.map_toArray, List.map_cons, List.map_nil]); first | done | rfl | (simp only [List.length_drop, List.length_take]; rfl)) ?_; (with_reducible refine (vernierref04_digit.calls _ _ l1 x7_1 t814 _ ?side1 ?side2 A8.out).mono ?_); (case side1 => repeat (first | exact (Kd.C_below HR1.out hbT) | (with_reducible refine Kd.C_alloc ?_ _) | (with_reducible refine Kd.C_drewN ?_ _) | (with_reducible refine Kd.C_drew ?_))); (case side2 => exact HC1.out); rintro e w' ⟨rfl, ⟨nd, rfl⟩⟩; refine ⟨_, rfl, ?_⟩) | ((with_reducible refine gate_builtin (b := .append) (xs := #[.tmp 34, .tmp 37]) rfl ?_); (try (refine gate_guard (by rfl) ?_; dsimp only)); at_builtin; refine Kd.R_append (Kd.int .i64) (w0 := w) w.heap.size rfl (.tmp 34) (.tmp 37) 158 3 (.int .i64 0) 8 rfl Try.underlying158 info3 rfl (by decide) (by omega) u5 x5_1 (Int.tmod (wrap64 ((wrap64 (t813 + t814)) + x6_1)) 16777216) [.int .i64 (Int.tmod (wrap64 ((wrap64 (t813 + t814)) + x6_1)) 16777216)] (fun _ => True) (fun _ => False) rfl rfl ?aP (fun _ hk => hk.elim) ?aF ?aO ?aB ?aS ?aL ?_; (case aP => exact rfl); (case aB => exact hbT); (case aF => exact (fun _ _ => trivial)); (case aO => exact (by (with_reducible repeat (first | apply Kd.R_alloc | apply Kd.R_drewN | apply Kd.R_drew)); exact HO_5.out)); (case aS => exact (below_size hbT)); (case aL => have := LMc9.out; omega); intro v816 w10 ho hb hg hat; rw [← Ny815.out] at ho; have HO817 := Aside0.mk (ho); replace HB := Aside0.mk (hb); clear ho hb hg hat))
       go_roundg kj2
       case measure => have := HK1.out; have := HJ2.out; omega
       case rel => exact ⟨(y815), (wrap64 (Int.tdiv (wrap64 ((wrap64 (t813 + t814)) + x6_1)) 16777216)), (wrap64 (x7_1 + 1)), okT, okT, H', ⟨by have := HK1.out; have := HJ2.out; omega⟩, ⟨by (with_reducible repeat (first | apply Kd.R_alloc | apply Kd.R_drewN | apply Kd.R_drew)); exact HO817.out⟩, ⟨hbT⟩⟩
      ·rw [if_neg c9] at H
       exact absurd H (by simp)
     ·replace c6 := Bool.eq_false_iff.mpr c6
      subst c6
      rw [if_neg (show ¬ (false = true) by decide)] at H
      obtain rfl := Option.some.inj H
      go_wp2
      go_ret
      exact ⟨_, reT, by (with_reducible repeat (first | apply Kd.R_alloc | apply Kd.R_drewN | apply Kd.R_drew)); exact HO_5.out, hbT⟩
end Go.Proofs.Ytnlbfomlfhigcaa.Q
