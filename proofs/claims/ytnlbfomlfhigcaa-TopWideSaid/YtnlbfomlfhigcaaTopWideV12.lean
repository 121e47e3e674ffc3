/- Walks and plain laws that the claim stands on: each theorem named calls says that a call of a function returns what its f computes; the others are plain laws of these f, and the words that the walks use. -/
import Derived.Lib.Hide
import Derived.Test.YtnlbfomlfhigcaaTopWideV2
import Derived.Test.YtnlbfomlfhigcaaTopWideV7
import Derived.Test.YtnlbfomlfhigcaaTopWideV11
import Derived.Test.YtnlbfomlfhigcaaTopWideV3
import Derived.Test.YtnlbfomlfhigcaaTopWideV6
namespace Go.Proofs.Ytnlbfomlfhigcaa.Q
open Go.RowKit Go.Proofs.YtnlbfomlfhigcaaW.PrintWords Go.Proofs.YtnlbfomlfhigcaaW.PrintLast Go.Proofs.YtnlbfomlfhigcaaW.PrintMore
attribute [local go_sem] max2_int min2_int max_two min_two max_three min_three max_four min_four
set_option linter.unusedVariables false
set_option linter.unusedSimpArgs false
mutual
def prod_Exact.l0 : Nat → List (S103) → Int → Int → Int → Bool → Int → Int → Int → Bool → Int → Int → Option (Int × Bool × Int × Int × Int × Bool × Option Int)
 | 0, _, _, _, _, _, _, _, _, _, _, _ => none
 | k + 1, x13, x14, x15, x601000, x601001, x601002, x601003, x602000, x602001, x602002, x602003 => if x15 < x14 then (if 0 ≤ x15 then (if x15 < (x13.length : Int) then ((round_Of.f k ((rd_T103 x13 x15).f0) ((rd_T103 x13 x15).f1) ((rd_T103 x13 x15).f2) ((rd_T103 x13 x15).f3)).bind fun bt608 => (if bt608.2.2.2.2.2.2.isNone = true then (prod_Exact.l0 k x13 x14 (wrap64 (x15 + 1)) x601000 x601001 x601002 x601003 x602000 x602001 x602002 x602003) else (some (0, false, 0, 0, 0, false, some (bt608.2.2.2.2.2.2.getD 0))))) else (none)) else (none)) else (if x601000 = 2 then (prod_Exact.j1 k (x601000 == 2) x601000 x601001 x601002 x601003 x602000 x602001 x602002 x602003) else (prod_Exact.j1 k (x602000 == 2) x601000 x601001 x601002 x601003 x602000 x602001 x602002 x602003))
def prod_Exact.j1 : Nat → Bool → Int → Bool → Int → Int → Int → Bool → Int → Int → Option (Int × Bool × Int × Int × Int × Bool × Option Int)
 | 0, _, _, _, _, _, _, _, _, _ => none
 | k + 1, x29, x601000, x601001, x601002, x601003, x602000, x602001, x602002, x602003 => if x29 = true then (some (2, false, 0, 0, 0, false, none)) else (if x601000 = 0 then (prod_Exact.j2 k (x601000 == 0) x601000 x601001 x601002 x601003 x602000 x602001 x602002 x602003) else (prod_Exact.j2 k (x602000 == 0) x601000 x601001 x601002 x601003 x602000 x602001 x602002 x602003))
def prod_Exact.j2 : Nat → Bool → Int → Bool → Int → Int → Int → Bool → Int → Int → Option (Int × Bool × Int × Int × Int × Bool × Option Int)
 | 0, _, _, _, _, _, _, _, _, _ => none
 | k + 1, x37, x601000, x601001, x601002, x601003, x602000, x602001, x602002, x602003 => if x37 = true then (some (0, false, 0, 0, 0, false, none)) else ((twin_Mul.f x601003 x602003).bind fun bt617 => ((round_Make.f k (x601001 != x602001) bt617.1 bt617.2 (wrap64 ((wrap64 (x601002 + x602002)) - 126)) false).bind fun bt620 => (some (bt620.1, bt620.2.1, bt620.2.2.1, bt620.2.2.2.1, bt620.2.2.2.2.1, bt620.2.2.2.2.2.1, bt620.2.2.2.2.2.2))))
end
def prod_Exact.f (k : Nat) (a0_0 : Int) (a0_1 : Bool) (a0_2 : Int) (a0_3 : Int) (a1_0 : Int) (a1_1 : Bool) (a1_2 : Int) (a1_3 : Int) : Option (Int × Bool × Int × Int × Int × Bool × Option Int) := (some (([(⟨a0_0, a0_1, a0_2, a0_3⟩ : S103), (⟨a1_0, a1_1, a1_2, a1_3⟩ : S103)] : List (S103)) : List (S103))).bind fun y603 => (prod_Exact.l0 k y603 (y603.length : Int) 0 a0_0 a0_1 a0_2 a0_3 a1_0 a1_1 a1_2 a1_3)
set_option maxHeartbeats 8000000 in
set_option maxRecDepth 100000 in
theorem prod_Exact.calls (k : Nat) (a0_0 : Int) (a0_1 : Bool) (a0_2 : Int) (a0_3 : Int) (a1_0 : Int) (a1_1 : Bool) (a1_2 : Int) (a1_3 : Int) (r1 : Int) (r2 : Bool) (r3 : Int) (r4 : Int) (r5 : Int) (r6 : Bool) (r7 : Option Int) (w : World) (h : prod_Exact.f k a0_0 a0_1 a0_2 a0_3 a1_0 a1_1 a1_2 a1_3 = some (r1, r2, r3, r4, r5, r6, r7)) :
  Calls Try.prog 94 #[.agg #[.int .i64 a0_0, .bool a0_1, .int .i64 a0_2, .int .u64 a0_3], .agg #[.int .i64 a1_0, .bool a1_1, .int .i64 a1_2, .int .u64 a1_3]] w fun e w' => e = .returned (.tuple #[.agg #[.int .i64 r1, .bool r2, .int .i64 r3, .int .u64 r4, .int .u64 r5, .bool r6], errW r7]) ∧ Below w.heap.size w w' := by
 have hu103 := Try.underlying103
 have hu86 := Try.underlying86
 have hu155 := Try.underlying155
 have hu43 := Try.underlying43
 have hu82 := Try.underlying82
 have HB := Aside0.mk (Below.refl w.heap.size w)
 have H := h
 clear h
 unfold prod_Exact.f at H
 obtain ⟨y603, hy603⟩ : ∃ y_ : List (S103), y_ = (([(⟨a0_0, a0_1, a0_2, a0_3⟩ : S103), (⟨a1_0, a1_1, a1_2, a1_3⟩ : S103)] : List (S103))) := ⟨_, rfl⟩
 replace H : (prod_Exact.l0 k y603 (y603.length : Int) 0 a0_0 a0_1 a0_2 a0_3 a1_0 a1_1 a1_2 a1_3) = some (r1, r2, r3, r4, r5, r6, r7) := by first | (rw [hy603]; with_reducible exact H) | (have H2_ := (Option.bind_some _ _).symm.trans H; rw [hy603]; with_reducible exact H2_) | (have H2_ := (Option.bind_some _ _).symm.trans H; with_reducible exact H2_) | with_reducible exact H | (rw [hy603]; exact H) | exact H
 have Ny603 := Aside0.mk hy603
 clear hy603
 have H' := Aside0.mk H
 clear H
 go_enter Try.func94, Try.ntmps94
 go_wp2_with (first | ((with_reducible refine gate_dst (N := 2) rfl ?_); refine boxA 2 (#[.int .i64 a0_0, .bool a0_1, .int .i64 a0_2, .int .u64 a0_3]) 103 ?_; intro gb600 hg w3 BK600 hb; have GW600 := geT hg; have GE600 := GW600; replace HB := hbS hb; clear hb hg) | ((with_reducible refine gate_dst (N := 3) rfl ?_); refine boxA 3 (#[.int .i64 a1_0, .bool a1_1, .int .i64 a1_2, .int .u64 a1_3]) 103 ?_; intro gb601 hg w4 BK601 hb; have GW601 := geT hg; have GE601 := GW601; obtain ⟨NB600_601, NB601_600⟩ := neT BK600 hg; replace BK600 := bkB BK600 hb; replace HB := hbS hb; clear hb hg) | ((with_reducible refine gate_dst (N := 4) rfl ?_); refine boxA 4 (#[.int .i64 0, .bool false, .int .i64 0, .int .u64 0, .int .u64 0, .bool false]) 86 ?_; intro gb602 hg w5 BK602 hb; have GW602 := geT hg; have GE602 := GW602; obtain ⟨NB600_602, NB602_600⟩ := neT BK600 hg; obtain ⟨NB601_602, NB602_601⟩ := neT BK601 hg; replace BK600 := bkB BK600 hb; replace BK601 := bkB BK601 hb; replace HB := hbS hb; clear hb hg; have hnb6 := NB600_601.out; have hnc6 := NB601_600.out; have hnb7 := NB600_602.out; have hnc7 := NB602_600.out; obtain ⟨z8_0, z8_1, z8_2, z8_3, y8_0, y8_1, y8_2, y8_3⟩ := cz4 BK600; have hnb9 := NB601_602.out; have hnc9 := NB602_601.out; obtain ⟨z10_0, z10_1, z10_2, z10_3, y10_0, y10_1, y10_2, y10_3⟩ := cz4 BK601) | ((with_reducible refine gate_dst (N := 13) rfl ?_); refine Kd.R_lit k103 _ 103 ?hg (N := 13) ?hd (xs := ([(⟨a0_0, a0_1, a0_2, a0_3⟩ : S103), (⟨a1_0, a1_1, a1_2, a1_3⟩ : S103)] : List (S103))) (inner := [.int .i64 a0_0, .bool a0_1, .int .i64 a0_2, .int .u64 a0_3, .int .i64 a1_0, .bool a1_1, .int .i64 a1_2, .int .u64 a1_3]) (ok := fun _ => True) (okp := fun _ => True) ?hr ?hp (fun _ hk => hk) trivial (Below.refl _ _) (Nat.le_refl _) (by simp) ?_; (case hd => rfl); (case hg => rfl); (case hr => first | (go_simp; done) | (go_simp; rfl)); (case hp => exact (Reps.c4 (show Kd.M k103 _ _ _ (⟨a0_0, a0_1, a0_2, a0_3⟩ : S103) [.int .i64 a0_0, .bool a0_1, .int .i64 a0_2, .int .u64 a0_3] from (k103_mkM _ _ _ (⟨a0_0, a0_1, a0_2, a0_3⟩ : S103) )) (Reps.c4 (show Kd.M k103 _ _ _ (⟨a1_0, a1_1, a1_2, a1_3⟩ : S103) [.int .i64 a1_0, .bool a1_1, .int .i64 a1_2, .int .u64 a1_3] from (k103_mkM _ _ _ (⟨a1_0, a1_1, a1_2, a1_3⟩ : S103) )) (Reps.none _ _)))); intro v604 w11 ho12 hb hg_ hnew_; clear hg_ hnew_; (first | rw [← Ny603.out] at ho12 | (simp only [Int.reduceToNat] at ho12; rw [← Ny603.out] at ho12)); have HO605 := Aside0.mk (Kd.R_lower (Kd.R_newB (Kd.R_newB ho12 (g := gb600) (o := .cells #[.int .i64 a0_0, .bool a0_1, .int .i64 a0_2, .int .u64 a0_3] 103 (0, 0)) (bkT BK600)) (g := gb601) (o := .cells #[.int .i64 a1_0, .bool a1_1, .int .i64 a1_2, .int .u64 a1_3] 103 (0, 0)) (bkT BK601)) (below_size hbT)); replace BK600 := bkB BK600 hb; replace BK601 := bkB BK601 hb; replace BK602 := bkB BK602 hb; replace HB := hbS hb; clear hb ho12; obtain ⟨Ao13, co13, eo13⟩ := Kd.R_slice HO605.out; subst eo13))
 go_loopg [15] k (fun kq v15 w' => ∃ (x15_1 : Int) (x603000_1 : Int) (x603001_1 : Bool) (x603002_1 : Int) (x603003_1 : Int) (x603004_1 : Int) (x603005_1 : Bool), v15 = .int .i64 x15_1 ∧ Aside0 (prod_Exact.l0 kq y603 (y603.length : Int) x15_1 a0_0 a0_1 a0_2 a0_3 a1_0 a1_1 a1_2 a1_3 = some (r1, r2, r3, r4, r5, r6, r7)) ∧ Aside0 (kq ≤ k) ∧ Aside0 (Kd.R k103 103 w' w.heap.size (fun k_ => k_ ≠ gb600 ∧ k_ ≠ gb601) (.slice Ao13 y603.length co13) y603) ∧ Aside0 (w'.heap[gb600]? = some (.cells #[.int .i64 a0_0, .bool a0_1, .int .i64 a0_2, .int .u64 a0_3] 103 (0, 0))) ∧ Aside0 (w'.heap[gb601]? = some (.cells #[.int .i64 a1_0, .bool a1_1, .int .i64 a1_2, .int .u64 a1_3] 103 (0, 0))) ∧ Aside0 (w'.heap[gb602]? = some (.cells #[.int .i64 x603000_1, .bool x603001_1, .int .i64 x603002_1, .int .u64 x603003_1, .int .u64 x603004_1, .bool x603005_1] 86 (0, 0))) ∧ Aside0 (Below w.heap.size w w'))
 case atStart => exact ⟨(0), (0), (false), (0), (0), (0), (false), okT, H', ⟨Nat.le_refl _⟩, ⟨by (with_reducible repeat (first | apply Kd.R_alloc | apply Kd.R_drewN | apply Kd.R_drew)); exact Kd.R_mono HO605.out (fun _ hk => ⟨hk.1.2, hk.2⟩)⟩, ⟨bkT BK600⟩, ⟨bkT BK601⟩, ⟨bkT BK602⟩, ⟨hbT⟩⟩
 case round =>
  clear H'
  try clear z10_0 z10_1 z10_2 z10_3 y10_0 y10_1 y10_2 y10_3
  try clear z8_0 z8_1 z8_2 z8_3 y8_0 y8_1 y8_2 y8_3
  obtain ⟨x15_1, x603000_1, x603001_1, x603002_1, x603003_1, x603004_1, x603005_1, rfl, HA, HK1, HO_13, BK600, BK601, BK602, HB⟩ := hrel
  cases gk with
  | zero => exact absurd HA.out (by simp [prod_Exact.l0])
  | succ k1 =>
   have H := HA.out
   clear HA
   simp only [prod_Exact.l0] at H
   by_cases c14 : x15_1 < (y603.length : Int)
   ·rw [if_pos c14] at H
    have c14b0 : decide (x15_1 < (y603.length : Int)) = true := decide_eq_true c14
    clear c14
    by_cases c15 : 0 ≤ x15_1
    ·rw [if_pos c15] at H
     have c15b0 : decide (0 ≤ x15_1) = true := decide_eq_true c15
     clear c15
     by_cases c16 : x15_1 < (y603.length : Int)
     ·rw [if_pos c16] at H
      have c16b0 : decide (x15_1 < (y603.length : Int)) = true := decide_eq_true c16
      clear c16
      replace H := Option.bind_eq_some_iff.mp H
      obtain ⟨⟨t608, t609, t610, t611, t612, t613, t614⟩, A170, H⟩ := H
      try dsimp only at H
      have A17 := Aside0.mk A170
      clear A170
      rcases t614 with _ | q616
      ·rw [if_pos (show (none : Option Int).isNone = true by rfl)] at H
       try simp only [errW_none, errW_some]
       have H' := Aside0.mk H
       clear H
       have p606 : 0 ≤ (x15_1 : Int) := of_decide_eq_true (by first | (with_reducible assumption) | assumption)
       have q606 : x15_1 < (y603.length : Int) := of_decide_eq_true (by first | (with_reducible assumption) | assumption)
       obtain ⟨ad606, e606, hx606_0, hx606_1, hx606_2, hx606_3⟩ := at_T103 (Kd.R_reads' HO_13.out).2.2 x15_1 p606 q606
       cases e606
       replace p606 := eq_true p606
       replace q606 := eq_true q606
       go_wp2_with (first | ((with_reducible refine gate_dst (N := 7) rfl ?_); refine box_event ?hg (N := 7) ?hd (cs := #[.int .i64 0, .bool false, .int .i64 0, .int .u64 0]) (t := 103) ?hr ?_; (case hd => rfl); (case hg => rfl); (case hr => first | (go_simp; done) | (go_simp; rfl)); intro gb607 hg w18 hbox hb; have n0_ := Aside0.mk (Kd.R_below (Kd.R_elderB (by (with_reducible repeat (first | apply Kd.R_alloc | apply Kd.R_drewN | apply Kd.R_drew)); exact HO_13.out) gb607 (Nat.le_of_eq hg.symm)) hb); have n1_ := bkB BK600 hb; have n2_ := bkB BK601 hb; have n3_ := bkB BK602 hb; have n4_ := hbS hb; have n5_ := Aside0.mk (hbox); have n6_ := geT hg; have n7_ := geT hg; have n8_ := nlT BK600 hg; have n9_ := ngT BK600 hg; have n10_ := nlT BK601 hg; have n11_ := ngT BK601 hg; have n12_ := nlT BK602 hg; have n13_ := ngT BK602 hg; clear HO_13; clear BK600; clear BK601; clear BK602; clear HB; have HO_13 := n0_; have BK600 := n1_; have BK601 := n2_; have BK602 := n3_; have HB := n4_; have BK607 := n5_; have GW607 := n6_; have GE607 := n7_; have NB600_607 := n8_; have NB607_600 := n9_; have NB601_607 := n10_; have NB607_601 := n11_; have NB602_607 := n12_; have NB607_602 := n13_; clear n0_ n1_ n2_ n3_ n4_ n5_ n6_ n7_ n8_ n9_ n10_ n11_ n12_ n13_; clear hb hbox hg; have hnb19 := NB607_600.out; have hnc19 := NB600_607.out; have hnb20 := NB607_601.out; have hnc20 := NB601_607.out; have hnb21 := NB607_602.out; have hnc21 := NB602_607.out; obtain ⟨z22_0, z22_1, z22_2, z22_3, y22_0, y22_1, y22_2, y22_3⟩ := cz4 BK607) | ((with_reducible refine gate_callee (f := 78) rfl ?_); refine goA (some 21) Try.func78 (round_Of.calls k1 ((rd_T103 y603 x15_1).f0) ((rd_T103 y603 x15_1).f1) ((rd_T103 y603 x15_1).f2) ((rd_T103 y603 x15_1).f3) t608 t609 t610 t611 t612 t613 none _ A17.out) ?_; intro w23 hb; have n0_ := Aside0.mk (Kd.R_below (by (with_reducible repeat (first | apply Kd.R_alloc | apply Kd.R_drewN | apply Kd.R_drew)); exact (Kd.R_mono (Kd.R_far (p := ⟨gb607, 3, none⟩) (Kd.R_far (p := ⟨gb607, 2, none⟩) (Kd.R_far (p := ⟨gb607, 1, none⟩) (Kd.R_far (p := ⟨gb607, 0, none⟩) (Kd.R_mono HO_13.out (fun k_ hk => (⟨hk, hk.2⟩ : _ ∧ k_ ≠ gb607))) (fun _ hk => hk.2) (.int .i64 ((rd_T103 y603 x15_1).f0))) (fun _ hk => hk.2) (.bool ((rd_T103 y603 x15_1).f1))) (fun _ hk => hk.2) (.int .i64 ((rd_T103 y603 x15_1).f2))) (fun _ hk => hk.2) (.int .u64 ((rd_T103 y603 x15_1).f3))) (fun _ h_ => h_.1))) hb); have n1_ := bkB BK600 hb; have n2_ := bkB BK601 hb; have n3_ := bkB BK602 hb; have n4_ := bkB (o := .cells #[.int .i64 ((rd_T103 y603 x15_1).f0), .bool ((rd_T103 y603 x15_1).f1), .int .i64 ((rd_T103 y603 x15_1).f2), .int .u64 ((rd_T103 y603 x15_1).f3)] 103 (0, 0)) BK607 hb; have n5_ := hbS hb; clear HO_13; clear BK600; clear BK601; clear BK602; clear BK607; clear HB; have HO_13 := n0_; have BK600 := n1_; have BK601 := n2_; have BK602 := n3_; have BK607 := n4_; have HB := n5_; clear n0_ n1_ n2_ n3_ n4_ n5_; clear hb; (try simp only [errW_none, errW_some])) | ((with_reducible refine gate_dst (N := 8) rfl ?_); refine box_event ?hg (N := 8) ?hd (cs := #[.int .i64 0, .bool false, .int .i64 0, .int .u64 0, .int .u64 0, .bool false]) (t := 86) ?hr ?_; (case hd => rfl); (case hg => rfl); (case hr => first | (go_simp; done) | (go_simp; rfl)); intro gb615 hg w24 hbox hb; have n0_ := Aside0.mk (Kd.R_below (by (with_reducible repeat (first | apply Kd.R_alloc | apply Kd.R_drewN | apply Kd.R_drew)); exact HO_13.out) hb); have n1_ := bkB BK600 hb; have n2_ := bkB BK601 hb; have n3_ := bkB BK602 hb; have n4_ := bkB BK607 hb; have n5_ := hbS hb; have n6_ := Aside0.mk (hbox); have n7_ := geT hg; have n8_ := geT hg; have n9_ := nlT BK600 hg; have n10_ := ngT BK600 hg; have n11_ := nlT BK601 hg; have n12_ := ngT BK601 hg; have n13_ := nlT BK602 hg; have n14_ := ngT BK602 hg; have n15_ := nlT BK607 hg; have n16_ := ngT BK607 hg; clear HO_13; clear BK600; clear BK601; clear BK602; clear BK607; clear HB; have HO_13 := n0_; have BK600 := n1_; have BK601 := n2_; have BK602 := n3_; have BK607 := n4_; have HB := n5_; have BK615 := n6_; have GW615 := n7_; have GE615 := n8_; have NB600_615 := n9_; have NB615_600 := n10_; have NB601_615 := n11_; have NB615_601 := n12_; have NB602_615 := n13_; have NB615_602 := n14_; have NB607_615 := n15_; have NB615_607 := n16_; clear n0_ n1_ n2_ n3_ n4_ n5_ n6_ n7_ n8_ n9_ n10_ n11_ n12_ n13_ n14_ n15_ n16_; clear hb hbox hg; have hnb25 := NB615_600.out; have hnc25 := NB600_615.out; have hnb26 := NB615_601.out; have hnc26 := NB601_615.out; have hnb27 := NB615_602.out; have hnc27 := NB602_615.out; have hnb28 := NB615_607.out; have hnc28 := NB607_615.out; obtain ⟨z29_0, z29_1, z29_2, z29_3, z29_4, z29_5, y29_0, y29_1, y29_2, y29_3, y29_4, y29_5⟩ := cz6 BK615))
       go_roundg k1
       case measure => have := HK1.out; omega
       case rel => exact ⟨(wrap64 (x15_1 + 1)), (x603000_1), (x603001_1), (x603002_1), (x603003_1), (x603004_1), (x603005_1), okT, H', ⟨by have := HK1.out; omega⟩, ⟨by (with_reducible repeat (first | apply Kd.R_alloc | apply Kd.R_drewN | apply Kd.R_drew)); exact Kd.R_mono (Kd.R_far (p := ⟨gb615, 5, none⟩) (Kd.R_far (p := ⟨gb615, 4, none⟩) (Kd.R_far (p := ⟨gb615, 3, none⟩) (Kd.R_far (p := ⟨gb615, 2, none⟩) (Kd.R_far (p := ⟨gb615, 1, none⟩) (Kd.R_far (p := ⟨gb615, 0, none⟩) (Kd.R_types HO_13.out BK615.out (by decide)) (fun _ hk => hk.2) (.int .i64 t608)) (fun _ hk => hk.2) (.bool t609)) (fun _ hk => hk.2) (.int .i64 t610)) (fun _ hk => hk.2) (.int .u64 t611)) (fun _ hk => hk.2) (.int .u64 t612)) (fun _ hk => hk.2) (.bool t613)) (fun _ hk => ⟨hk.1.1.1, hk.1.1.2⟩)⟩, ⟨bkT BK600⟩, ⟨bkT BK601⟩, ⟨bkT BK602⟩, ⟨hbT⟩⟩
      ·rw [if_neg (show ¬ (some q616).isNone = true by simp)] at H
       try simp only [errW_none, errW_some]
       simp only [Option.some.injEq, Prod.mk.injEq] at H
       obtain ⟨rfl, rfl, rfl, rfl, rfl, rfl, rfl⟩ := H
       have p606 : 0 ≤ (x15_1 : Int) := of_decide_eq_true (by first | (with_reducible assumption) | assumption)
       have q606 : x15_1 < (y603.length : Int) := of_decide_eq_true (by first | (with_reducible assumption) | assumption)
       obtain ⟨ad606, e606, hx606_0, hx606_1, hx606_2, hx606_3⟩ := at_T103 (Kd.R_reads' HO_13.out).2.2 x15_1 p606 q606
       cases e606
       replace p606 := eq_true p606
       replace q606 := eq_true q606
       go_wp2_with (first | ((with_reducible refine gate_dst (N := 7) rfl ?_); refine box_event ?hg (N := 7) ?hd (cs := #[.int .i64 0, .bool false, .int .i64 0, .int .u64 0]) (t := 103) ?hr ?_; (case hd => rfl); (case hg => rfl); (case hr => first | (go_simp; done) | (go_simp; rfl)); intro gb607 hg w30 hbox hb; have n0_ := Aside0.mk (Kd.R_below (Kd.R_elderB (by (with_reducible repeat (first | apply Kd.R_alloc | apply Kd.R_drewN | apply Kd.R_drew)); exact HO_13.out) gb607 (Nat.le_of_eq hg.symm)) hb); have n1_ := bkB BK600 hb; have n2_ := bkB BK601 hb; have n3_ := bkB BK602 hb; have n4_ := hbS hb; have n5_ := Aside0.mk (hbox); have n6_ := geT hg; have n7_ := geT hg; have n8_ := nlT BK600 hg; have n9_ := ngT BK600 hg; have n10_ := nlT BK601 hg; have n11_ := ngT BK601 hg; have n12_ := nlT BK602 hg; have n13_ := ngT BK602 hg; clear HO_13; clear BK600; clear BK601; clear BK602; clear HB; have HO_13 := n0_; have BK600 := n1_; have BK601 := n2_; have BK602 := n3_; have HB := n4_; have BK607 := n5_; have GW607 := n6_; have GE607 := n7_; have NB600_607 := n8_; have NB607_600 := n9_; have NB601_607 := n10_; have NB607_601 := n11_; have NB602_607 := n12_; have NB607_602 := n13_; clear n0_ n1_ n2_ n3_ n4_ n5_ n6_ n7_ n8_ n9_ n10_ n11_ n12_ n13_; clear hb hbox hg; have hnb31 := NB607_600.out; have hnc31 := NB600_607.out; have hnb32 := NB607_601.out; have hnc32 := NB601_607.out; have hnb33 := NB607_602.out; have hnc33 := NB602_607.out; obtain ⟨z34_0, z34_1, z34_2, z34_3, y34_0, y34_1, y34_2, y34_3⟩ := cz4 BK607) | ((with_reducible refine gate_callee (f := 78) rfl ?_); refine goA (some 21) Try.func78 (round_Of.calls k1 ((rd_T103 y603 x15_1).f0) ((rd_T103 y603 x15_1).f1) ((rd_T103 y603 x15_1).f2) ((rd_T103 y603 x15_1).f3) t608 t609 t610 t611 t612 t613 (some q616) _ A17.out) ?_; intro w35 hb; have n0_ := Aside0.mk (Kd.R_below (by (with_reducible repeat (first | apply Kd.R_alloc | apply Kd.R_drewN | apply Kd.R_drew)); exact (Kd.R_mono (Kd.R_far (p := ⟨gb607, 3, none⟩) (Kd.R_far (p := ⟨gb607, 2, none⟩) (Kd.R_far (p := ⟨gb607, 1, none⟩) (Kd.R_far (p := ⟨gb607, 0, none⟩) (Kd.R_mono HO_13.out (fun k_ hk => (⟨hk, hk.2⟩ : _ ∧ k_ ≠ gb607))) (fun _ hk => hk.2) (.int .i64 ((rd_T103 y603 x15_1).f0))) (fun _ hk => hk.2) (.bool ((rd_T103 y603 x15_1).f1))) (fun _ hk => hk.2) (.int .i64 ((rd_T103 y603 x15_1).f2))) (fun _ hk => hk.2) (.int .u64 ((rd_T103 y603 x15_1).f3))) (fun _ h_ => h_.1))) hb); have n1_ := bkB BK600 hb; have n2_ := bkB BK601 hb; have n3_ := bkB BK602 hb; have n4_ := bkB (o := .cells #[.int .i64 ((rd_T103 y603 x15_1).f0), .bool ((rd_T103 y603 x15_1).f1), .int .i64 ((rd_T103 y603 x15_1).f2), .int .u64 ((rd_T103 y603 x15_1).f3)] 103 (0, 0)) BK607 hb; have n5_ := hbS hb; clear HO_13; clear BK600; clear BK601; clear BK602; clear BK607; clear HB; have HO_13 := n0_; have BK600 := n1_; have BK601 := n2_; have BK602 := n3_; have BK607 := n4_; have HB := n5_; clear n0_ n1_ n2_ n3_ n4_ n5_; clear hb; (try simp only [errW_none, errW_some])) | ((with_reducible refine gate_dst (N := 8) rfl ?_); refine box_event ?hg (N := 8) ?hd (cs := #[.int .i64 0, .bool false, .int .i64 0, .int .u64 0, .int .u64 0, .bool false]) (t := 86) ?hr ?_; (case hd => rfl); (case hg => rfl); (case hr => first | (go_simp; done) | (go_simp; rfl)); intro gb615 hg w36 hbox hb; have n0_ := Aside0.mk (Kd.R_below (by (with_reducible repeat (first | apply Kd.R_alloc | apply Kd.R_drewN | apply Kd.R_drew)); exact HO_13.out) hb); have n1_ := bkB BK600 hb; have n2_ := bkB BK601 hb; have n3_ := bkB BK602 hb; have n4_ := bkB BK607 hb; have n5_ := hbS hb; have n6_ := Aside0.mk (hbox); have n7_ := geT hg; have n8_ := geT hg; have n9_ := nlT BK600 hg; have n10_ := ngT BK600 hg; have n11_ := nlT BK601 hg; have n12_ := ngT BK601 hg; have n13_ := nlT BK602 hg; have n14_ := ngT BK602 hg; have n15_ := nlT BK607 hg; have n16_ := ngT BK607 hg; clear HO_13; clear BK600; clear BK601; clear BK602; clear BK607; clear HB; have HO_13 := n0_; have BK600 := n1_; have BK601 := n2_; have BK602 := n3_; have BK607 := n4_; have HB := n5_; have BK615 := n6_; have GW615 := n7_; have GE615 := n8_; have NB600_615 := n9_; have NB615_600 := n10_; have NB601_615 := n11_; have NB615_601 := n12_; have NB602_615 := n13_; have NB615_602 := n14_; have NB607_615 := n15_; have NB615_607 := n16_; clear n0_ n1_ n2_ n3_ n4_ n5_ n6_ n7_ n8_ n9_ n10_ n11_ n12_ n13_ n14_ n15_ n16_; clear hb hbox hg; have hnb37 := NB615_600.out; have hnc37 := NB600_615.out; have hnb38 := NB615_601.out; have hnc38 := NB601_615.out; have hnb39 := NB615_602.out; have hnc39 := NB602_615.out; have hnb40 := NB615_607.out; have hnc40 := NB607_615.out; obtain ⟨z41_0, z41_1, z41_2, z41_3, z41_4, z41_5, y41_0, y41_1, y41_2, y41_3, y41_4, y41_5⟩ := cz6 BK615; have hnb42 := NB602_600.out; have hnc42 := NB600_602.out; have hnb43 := NB602_601.out; have hnc43 := NB601_602.out; obtain ⟨z44_0, z44_1, z44_2, z44_3, z44_4, z44_5, y44_0, y44_1, y44_2, y44_3, y44_4, y44_5⟩ := cz6 BK602))
       refine bodyPost_ret (results_ct rfl _ _ gb602 86 #[.int .i64 0, .bool false, .int .i64 0, .int .u64 0, .int .u64 0, .bool false] (0, 0) _ rfl (bkT BK602) Try.underlying86 rfl (by kernel_rfl)) rfl ?_
       exact ⟨reT, hbT⟩
     ·rw [if_neg c16] at H
      exact absurd H (by simp)
    ·rw [if_neg c15] at H
     exact absurd H (by simp)
   ·rw [if_neg c14] at H
    have c14b0 : decide (x15_1 < (y603.length : Int)) = false := decide_eq_false c14
    clear c14
    have HC45 := Aside0.mk H
    clear H
    have hnb46 := NB600_601.out
    have hnc46 := NB601_600.out
    have hnb47 := NB600_602.out
    have hnc47 := NB602_600.out
    obtain ⟨z48_0, z48_1, z48_2, z48_3, y48_0, y48_1, y48_2, y48_3⟩ := cz4 BK600
    go_upto_if 29 with (fail)
    go_cut [29] (fun v29 wc => ∃ (kq : Nat) (x29_44 : Bool), v29 = .bool x29_44 ∧ Aside0 (prod_Exact.j1 kq x29_44 a0_0 a0_1 a0_2 a0_3 a1_0 a1_1 a1_2 a1_3 = some (r1, r2, r3, r4, r5, r6, r7)) ∧ Aside0 (kq ≤ k1) ∧ Aside0 (wc.heap[gb600]? = some (.cells #[.int .i64 a0_0, .bool a0_1, .int .i64 a0_2, .int .u64 a0_3] 103 (0, 0))) ∧ Aside0 (wc.heap[gb601]? = some (.cells #[.int .i64 a1_0, .bool a1_1, .int .i64 a1_2, .int .u64 a1_3] 103 (0, 0))) ∧ Aside0 (wc.heap[gb602]? = some (.cells #[.int .i64 x603000_1, .bool x603001_1, .int .i64 x603002_1, .int .u64 x603003_1, .int .u64 x603004_1, .bool x603005_1] 86 (0, 0))) ∧ Aside0 (Below w.heap.size w wc))
    case first =>
     have H := HC45.out
     clear HC45
     by_cases c49 : a0_0 = 2
     ·rw [if_pos c49] at H
      obtain ⟨c49b0, c49b1⟩ := eqY c49
      clear c49
      (first | rw [c49b0] | (simp only [i64_w, i32_w]; rw [c49b0]) | rw [c49b1] | skip)
      have H' := Aside0.mk H
      clear H
      go_wp2
      go_meet
      case rel => exact ⟨_, ((a0_0 == 2)), okT, H', ⟨by have := HK1.out; first | omega | exact Nat.le_refl _⟩, ⟨bkT BK600⟩, ⟨bkT BK601⟩, ⟨bkT BK602⟩, ⟨hbT⟩⟩
     ·rw [if_neg c49] at H
      obtain ⟨c49b0, c49b1⟩ := eqN c49
      (first | rw [c49b0] | (simp only [i64_w, i32_w]; rw [c49b0]) | rw [c49b1] | skip)
      have H' := Aside0.mk H
      clear H
      have hnb50 := NB601_600.out
      have hnc50 := NB600_601.out
      have hnb51 := NB601_602.out
      have hnc51 := NB602_601.out
      obtain ⟨z52_0, z52_1, z52_2, z52_3, y52_0, y52_1, y52_2, y52_3⟩ := cz4 BK601
      go_wp2
      go_meet
      case rel => exact ⟨_, ((a1_0 == 2)), okT, H', ⟨by have := HK1.out; first | omega | exact Nat.le_refl _⟩, ⟨bkT BK600⟩, ⟨bkT BK601⟩, ⟨bkT BK602⟩, ⟨hbT⟩⟩
    case rest =>
     clear HC45
     try clear c14
     try clear c14b0
     try clear z48_0 z48_1 z48_2 z48_3 y48_0 y48_1 y48_2 y48_3
     obtain ⟨kq, x29_44, rfl, HA, HJ44, BK600, BK601, BK602, HB⟩ := hcut
     cases kq with
     | zero => exact absurd HA.out (by simp [prod_Exact.j1])
     | succ kj44 =>
      have H := HA.out
      clear HA
      simp only [prod_Exact.j1] at H
      by_cases c53 : x29_44 = true
      ·subst c53
       rw [if_pos rfl] at H
       simp only [Option.some.injEq, Prod.mk.injEq] at H
       obtain ⟨rfl, rfl, rfl, rfl, rfl, rfl, rfl⟩ := H
       have hnb54 := NB602_600.out
       have hnc54 := NB600_602.out
       have hnb55 := NB602_601.out
       have hnc55 := NB601_602.out
       obtain ⟨z56_0, z56_1, z56_2, z56_3, z56_4, z56_5, y56_0, y56_1, y56_2, y56_3, y56_4, y56_5⟩ := cz6 BK602
       go_wp2
       refine bodyPost_ret (results_ct rfl _ _ gb602 86 #[.int .i64 2, .bool false, .int .i64 0, .int .u64 0, .int .u64 0, .bool false] (0, 0) _ rfl (bkT BK602) Try.underlying86 rfl (by kernel_rfl)) rfl ?_
       exact ⟨reT, hbT⟩
      ·replace c53 := Bool.eq_false_iff.mpr c53
       subst c53
       rw [if_neg (show ¬ (false = true) by decide)] at H
       have HC57 := Aside0.mk H
       clear H
       have hnb58 := NB600_601.out
       have hnc58 := NB601_600.out
       have hnb59 := NB600_602.out
       have hnc59 := NB602_600.out
       obtain ⟨z60_0, z60_1, z60_2, z60_3, y60_0, y60_1, y60_2, y60_3⟩ := cz4 BK600
       go_upto_if 37 with (fail)
       go_cut [37] (fun v37 wc => ∃ (kq : Nat) (x37_56 : Bool), v37 = .bool x37_56 ∧ Aside0 (prod_Exact.j2 kq x37_56 a0_0 a0_1 a0_2 a0_3 a1_0 a1_1 a1_2 a1_3 = some (r1, r2, r3, r4, r5, r6, r7)) ∧ Aside0 (kq ≤ kj44) ∧ Aside0 (wc.heap[gb600]? = some (.cells #[.int .i64 a0_0, .bool a0_1, .int .i64 a0_2, .int .u64 a0_3] 103 (0, 0))) ∧ Aside0 (wc.heap[gb601]? = some (.cells #[.int .i64 a1_0, .bool a1_1, .int .i64 a1_2, .int .u64 a1_3] 103 (0, 0))) ∧ Aside0 (wc.heap[gb602]? = some (.cells #[.int .i64 x603000_1, .bool x603001_1, .int .i64 x603002_1, .int .u64 x603003_1, .int .u64 x603004_1, .bool x603005_1] 86 (0, 0))) ∧ Aside0 (Below w.heap.size w wc))
       case first =>
        have H := HC57.out
        clear HC57
        by_cases c61 : a0_0 = 0
        ·rw [if_pos c61] at H
         obtain ⟨c61b0, c61b1⟩ := eqY c61
         clear c61
         (first | rw [c61b0] | (simp only [i64_w, i32_w]; rw [c61b0]) | rw [c61b1] | skip)
         have H' := Aside0.mk H
         clear H
         go_wp2
         go_meet
         case rel => exact ⟨_, ((a0_0 == 0)), okT, H', ⟨by have := HK1.out; have := HJ44.out; first | omega | exact Nat.le_refl _⟩, ⟨bkT BK600⟩, ⟨bkT BK601⟩, ⟨bkT BK602⟩, ⟨hbT⟩⟩
        ·rw [if_neg c61] at H
         obtain ⟨c61b0, c61b1⟩ := eqN c61
         (first | rw [c61b0] | (simp only [i64_w, i32_w]; rw [c61b0]) | rw [c61b1] | skip)
         have H' := Aside0.mk H
         clear H
         have hnb62 := NB601_600.out
         have hnc62 := NB600_601.out
         have hnb63 := NB601_602.out
         have hnc63 := NB602_601.out
         obtain ⟨z64_0, z64_1, z64_2, z64_3, y64_0, y64_1, y64_2, y64_3⟩ := cz4 BK601
         go_wp2
         go_meet
         case rel => exact ⟨_, ((a1_0 == 0)), okT, H', ⟨by have := HK1.out; have := HJ44.out; first | omega | exact Nat.le_refl _⟩, ⟨bkT BK600⟩, ⟨bkT BK601⟩, ⟨bkT BK602⟩, ⟨hbT⟩⟩
       case rest =>
        clear HC57
        try clear c53
        try clear z60_0 z60_1 z60_2 z60_3 y60_0 y60_1 y60_2 y60_3
        obtain ⟨kq, x37_56, rfl, HA, HJ56, BK600, BK601, BK602, HB⟩ := hcut
        cases kq with
        | zero => exact absurd HA.out (by simp [prod_Exact.j2])
        | succ kj56 =>
         have H := HA.out
         clear HA
         simp only [prod_Exact.j2] at H
         by_cases c65 : x37_56 = true
         ·subst c65
          rw [if_pos rfl] at H
          simp only [Option.some.injEq, Prod.mk.injEq] at H
          obtain ⟨rfl, rfl, rfl, rfl, rfl, rfl, rfl⟩ := H
          have hnb66 := NB602_600.out
          have hnc66 := NB600_602.out
          have hnb67 := NB602_601.out
          have hnc67 := NB601_602.out
          obtain ⟨z68_0, z68_1, z68_2, z68_3, z68_4, z68_5, y68_0, y68_1, y68_2, y68_3, y68_4, y68_5⟩ := cz6 BK602
          go_wp2
          refine bodyPost_ret (results_ct rfl _ _ gb602 86 #[.int .i64 0, .bool false, .int .i64 0, .int .u64 0, .int .u64 0, .bool false] (0, 0) _ rfl (bkT BK602) Try.underlying86 rfl (by kernel_rfl)) rfl ?_
          exact ⟨reT, hbT⟩
         ·replace c65 := Bool.eq_false_iff.mpr c65
          subst c65
          rw [if_neg (show ¬ (false = true) by decide)] at H
          replace H := Option.bind_eq_some_iff.mp H
          obtain ⟨⟨t617, t618⟩, A690, H⟩ := H
          try dsimp only at H
          have A69 := Aside0.mk A690
          clear A690
          replace H := Option.bind_eq_some_iff.mp H
          obtain ⟨⟨t620, t621, t622, t623, t624, t625, t626⟩, A700, H⟩ := H
          try dsimp only at H
          have A70 := Aside0.mk A700
          clear A700
          simp only [Option.some.injEq, Prod.mk.injEq] at H
          obtain ⟨rfl, rfl, rfl, rfl, rfl, rfl, rfl⟩ := H
          have hnb71 := NB600_601.out
          have hnc71 := NB601_600.out
          have hnb72 := NB600_602.out
          have hnc72 := NB602_600.out
          obtain ⟨z73_0, z73_1, z73_2, z73_3, y73_0, y73_1, y73_2, y73_3⟩ := cz4 BK600
          have hnb74 := NB601_602.out
          have hnc74 := NB602_601.out
          obtain ⟨z75_0, z75_1, z75_2, z75_3, y75_0, y75_1, y75_2, y75_3⟩ := cz4 BK601
          go_wp2_with (first | ((with_reducible refine gate_callee (f := 119) rfl ?_); refine goA (some 49) Try.func119 (twin_Mul.calls a0_3 a1_3 t617 t618 _ A69.out) ?_; intro w76 hb; replace BK600 := bkB BK600 hb; replace BK601 := bkB BK601 hb; replace BK602 := bkB BK602 hb; replace HB := hbS hb; clear hb) | ((with_reducible refine gate_dst (N := 10) rfl ?_); refine boxA 10 (#[.int .u64 0, .int .u64 0]) 155 ?_; intro gb619 hg w77 BK619 hb; have GW619 := geT hg; have GE619 := GW619; obtain ⟨NB600_619, NB619_600⟩ := neT BK600 hg; obtain ⟨NB601_619, NB619_601⟩ := neT BK601 hg; obtain ⟨NB602_619, NB619_602⟩ := neT BK602 hg; replace BK600 := bkB BK600 hb; replace BK601 := bkB BK601 hb; replace BK602 := bkB BK602 hb; replace HB := hbS hb; clear hb hg; have hnb78 := NB619_600.out; have hnc78 := NB600_619.out; have hnb79 := NB619_601.out; have hnc79 := NB601_619.out; have hnb80 := NB619_602.out; have hnc80 := NB602_619.out; obtain ⟨z81_0, z81_1, y81_0, y81_1⟩ := cz2 BK619; obtain ⟨z82_0, z82_1, z82_2, z82_3, y82_0, y82_1, y82_2, y82_3⟩ := cz4 BK600; obtain ⟨z83_0, z83_1, z83_2, z83_3, y83_0, y83_1, y83_2, y83_3⟩ := cz4 BK601) | ((with_reducible refine gate_callee (f := 120) rfl ?_); refine goA (some 65) Try.func120 (round_Make.calls kj56 (a0_1 != a1_1) t617 t618 (wrap64 ((wrap64 (a0_2 + a1_2)) - 126)) false t620 t621 t622 t623 t624 t625 t626 _ A70.out) ?_; intro w84 hb; replace BK600 := bkB BK600 hb; replace BK601 := bkB BK601 hb; replace BK602 := bkB BK602 hb; replace BK619 := bkB (o := .cells #[.int .u64 t617, .int .u64 t618] 155 (0, 0)) BK619 hb; replace HB := hbS hb; clear hb; (try simp only [errW_none, errW_some]); obtain ⟨z85_0, z85_1, z85_2, z85_3, z85_4, z85_5, y85_0, y85_1, y85_2, y85_3, y85_4, y85_5⟩ := cz6 BK602))
          refine bodyPost_ret (results_ct rfl _ _ gb602 86 #[.int .i64 t620, .bool t621, .int .i64 t622, .int .u64 t623, .int .u64 t624, .bool t625] (0, 0) _ rfl (bkT BK602) Try.underlying86 rfl (by kernel_rfl)) rfl ?_
          exact ⟨reT, hbT⟩
end Go.Proofs.Ytnlbfomlfhigcaa.Q
namespace Go.Proofs.Ytnlbfomlfhigcaa.Q
open Go.RowKit Go.Proofs.YtnlbfomlfhigcaaW.PrintWords Go.Proofs.YtnlbfomlfhigcaaW.PrintLast Go.Proofs.YtnlbfomlfhigcaaW.PrintMore
attribute [local go_sem] max2_int min2_int max_two min_two max_three min_three max_four min_four
set_option linter.unusedVariables false
set_option linter.unusedSimpArgs false
def prod_Mul.f (k : Nat) (a0 : Int) (a1 : Int) (a2 : Int) : Option (Int × Option Int) := (codec_Decode.f k a0 a1).bind fun bt915 => (if bt915.2.2.2.2.isNone = true then ((codec_Decode.f k a0 a2).bind fun bt922 => ((prod_Exact.f k bt915.1 bt915.2.1 bt915.2.2.1 bt915.2.2.2.1 bt922.1 bt922.2.1 bt922.2.2.1 bt922.2.2.2.1).bind fun bt928 => ((round_Round.f k a0 bt928.1 bt928.2.1 bt928.2.2.1 bt928.2.2.2.1 bt928.2.2.2.2.1 bt928.2.2.2.2.2.1).bind fun bt936 => (some (bt936.1, bt936.2))))) else (some (0, some (bt915.2.2.2.2.getD 0))))
set_option maxHeartbeats 8000000 in
set_option maxRecDepth 100000 in
theorem prod_Mul.calls (k : Nat) (a0 : Int) (a1 : Int) (a2 : Int) (r1 : Int) (r2 : Option Int) (w : World) (h : prod_Mul.f k a0 a1 a2 = some (r1, r2)) :
  Calls Try.prog 60 #[.int .i64 a0, .int .u64 a1, .int .u64 a2] w fun e w' => e = .returned (.tuple #[.int .u64 r1, errW r2]) ∧ Below w.heap.size w w' := by
 have hu103 := Try.underlying103
 have hu86 := Try.underlying86
 have hu43 := Try.underlying43
 have hu82 := Try.underlying82
 have HB := Aside0.mk (Below.refl w.heap.size w)
 have H := h
 clear h
 unfold prod_Mul.f at H
 replace H := Option.bind_eq_some_iff.mp H
 obtain ⟨⟨t915, t916, t917, t918, t919⟩, A40, H⟩ := H
 try dsimp only at H
 have A4 := Aside0.mk A40
 clear A40
 rcases t919 with _ | q921
 ·rw [if_pos (show (none : Option Int).isNone = true by rfl)] at H
  try simp only [errW_none, errW_some]
  replace H := Option.bind_eq_some_iff.mp H
  obtain ⟨⟨t922, t923, t924, t925, t926⟩, A50, H⟩ := H
  try dsimp only at H
  have A5 := Aside0.mk A50
  clear A50
  replace H := Option.bind_eq_some_iff.mp H
  obtain ⟨⟨t928, t929, t930, t931, t932, t933, t934⟩, A60, H⟩ := H
  try dsimp only at H
  have A6 := Aside0.mk A60
  clear A60
  replace H := Option.bind_eq_some_iff.mp H
  obtain ⟨⟨t936, t937⟩, A70, H⟩ := H
  try dsimp only at H
  have A7 := Aside0.mk A70
  clear A70
  simp only [Option.some.injEq, Prod.mk.injEq] at H
  obtain ⟨rfl, rfl⟩ := H
  go_enter Try.func60, Try.ntmps60
  go_wp2_with (first | ((with_reducible refine gate_callee (f := 72) rfl ?_); refine goA (some 17) Try.func72 (codec_Decode.calls k a0 a1 t915 t916 t917 t918 none _ A4.out) ?_; intro w8 hb; replace HB := hbS hb; clear hb; (try simp only [errW_none, errW_some])) | ((with_reducible refine gate_dst (N := 8) rfl ?_); refine boxA 8 (#[.int .i64 0, .bool false, .int .i64 0, .int .u64 0]) 103 ?_; intro gb920 hg w9 BK920 hb; have GW920 := geT hg; have GE920 := GW920; replace HB := hbS hb; clear hb hg; obtain ⟨z10_0, z10_1, z10_2, z10_3, y10_0, y10_1, y10_2, y10_3⟩ := cz4 BK920) | ((with_reducible refine gate_callee (f := 72) rfl ?_); refine goA (some 26) Try.func72 (codec_Decode.calls k a0 a2 t922 t923 t924 t925 t926 _ A5.out) ?_; intro w11 hb; replace BK920 := bkB (o := .cells #[.int .i64 t915, .bool t916, .int .i64 t917, .int .u64 t918] 103 (0, 0)) BK920 hb; replace HB := hbS hb; clear hb; (try simp only [errW_none, errW_some])) | ((with_reducible refine gate_dst (N := 10) rfl ?_); refine boxA 10 (#[.int .i64 0, .bool false, .int .i64 0, .int .u64 0]) 103 ?_; intro gb927 hg w12 BK927 hb; have GW927 := geT hg; have GE927 := GW927; obtain ⟨NB920_927, NB927_920⟩ := neT BK920 hg; replace BK920 := bkB BK920 hb; replace HB := hbS hb; clear hb hg; have hnb13 := NB927_920.out; have hnc13 := NB920_927.out; obtain ⟨z14_0, z14_1, z14_2, z14_3, y14_0, y14_1, y14_2, y14_3⟩ := cz4 BK927; obtain ⟨z15_0, z15_1, z15_2, z15_3, y15_0, y15_1, y15_2, y15_3⟩ := cz4 BK920) | ((with_reducible refine gate_callee (f := 94) rfl ?_); refine goA (some 32) Try.func94 (prod_Exact.calls k t915 t916 t917 t918 t922 t923 t924 t925 t928 t929 t930 t931 t932 t933 t934 _ A6.out) ?_; intro w16 hb; replace BK920 := bkB BK920 hb; replace BK927 := bkB (o := .cells #[.int .i64 t922, .bool t923, .int .i64 t924, .int .u64 t925] 103 (0, 0)) BK927 hb; replace HB := hbS hb; clear hb; (try simp only [errW_none, errW_some])) | ((with_reducible refine gate_dst (N := 12) rfl ?_); refine boxA 12 (#[.int .i64 0, .bool false, .int .i64 0, .int .u64 0, .int .u64 0, .bool false]) 86 ?_; intro gb935 hg w17 BK935 hb; have GW935 := geT hg; have GE935 := GW935; obtain ⟨NB920_935, NB935_920⟩ := neT BK920 hg; obtain ⟨NB927_935, NB935_927⟩ := neT BK927 hg; replace BK920 := bkB BK920 hb; replace BK927 := bkB BK927 hb; replace HB := hbS hb; clear hb hg; have hnb18 := NB935_920.out; have hnc18 := NB920_935.out; have hnb19 := NB935_927.out; have hnc19 := NB927_935.out; obtain ⟨z20_0, z20_1, z20_2, z20_3, z20_4, z20_5, y20_0, y20_1, y20_2, y20_3, y20_4, y20_5⟩ := cz6 BK935) | ((with_reducible refine gate_callee (f := 74) rfl ?_); refine goA (some 37) Try.func74 (round_Round.calls k a0 t928 t929 t930 t931 t932 t933 t936 t937 _ A7.out) ?_; intro w21 hb; replace BK920 := bkB BK920 hb; replace BK927 := bkB BK927 hb; replace BK935 := bkB (o := .cells #[.int .i64 t928, .bool t929, .int .i64 t930, .int .u64 t931, .int .u64 t932, .bool t933] 86 (0, 0)) BK935 hb; replace HB := hbS hb; clear hb; (try simp only [errW_none, errW_some])))
  go_ret2
  exact ⟨reT, hbT⟩
 ·rw [if_neg (show ¬ (some q921).isNone = true by simp)] at H
  try simp only [errW_none, errW_some]
  simp only [Option.some.injEq, Prod.mk.injEq] at H
  obtain ⟨rfl, rfl⟩ := H
  go_enter Try.func60, Try.ntmps60
  go_wp2_with (first | ((with_reducible refine gate_callee (f := 72) rfl ?_); refine goA (some 17) Try.func72 (codec_Decode.calls k a0 a1 t915 t916 t917 t918 (some q921) _ A4.out) ?_; intro w22 hb; replace HB := hbS hb; clear hb; (try simp only [errW_none, errW_some])) | ((with_reducible refine gate_dst (N := 8) rfl ?_); refine boxA 8 (#[.int .i64 0, .bool false, .int .i64 0, .int .u64 0]) 103 ?_; intro gb920 hg w23 BK920 hb; have GW920 := geT hg; have GE920 := GW920; replace HB := hbS hb; clear hb hg; obtain ⟨z24_0, z24_1, z24_2, z24_3, y24_0, y24_1, y24_2, y24_3⟩ := cz4 BK920))
  go_ret2
  exact ⟨reT, hbT⟩
end Go.Proofs.Ytnlbfomlfhigcaa.Q
namespace Go.Proofs.Ytnlbfomlfhigcaa.Q
open Go.RowKit Go.Proofs.YtnlbfomlfhigcaaW.PrintWords Go.Proofs.YtnlbfomlfhigcaaW.PrintLast Go.Proofs.YtnlbfomlfhigcaaW.PrintMore
def gen_P64_13.f (k : Nat) (a0 : Int) (a1 : Int) : Option (Int) := (sum_Add.f k 64 a0 a1).bind fun b => some b.1
set_option maxHeartbeats 2000000 in
theorem gen_P64_13.two (k : Nat) (a0 : Int) (a1 : Int) (r1 : Int) (r2 : Option Int) (w : World) (h : sum_Add.f k 64 a0 a1 = some (r1, r2)) :
    Calls Try.prog 58 #[.func (.func 32) #[] #[], .int .u64 a0, .int .u64 a1] w fun e w' => e = .returned (.int .u64 r1) ∧ Below w.heap.size w w' := by
  have hw : ∀ w : World, Calls Try.prog 22 #[] w fun e w' => e = .returned (.int .i64 64) ∧ Drawn0 w w' := fun w => gen_P64_22.calls 70 64 w (by decide +kernel)
  go_enter Try.func58, Try.ntmps58
  go_wp2_with (first | (go_at_call 22; refine (hw _).mono ?_; rintro e w' ⟨rfl, ⟨nd, rfl⟩⟩) | (go_at_call 32; refine (sum_Add.calls k 64 a0 a1 r1 r2 _ h).mono ?_; rintro e w' ⟨rfl, hb⟩))
  go_ret
  exact ⟨rfl, below_then (pw_below_drewN (Below.refl _ _) nd) (Nat.le_refl _) hb⟩
theorem gen_P64_13.calls (k : Nat) (a0 : Int) (a1 : Int) (r : Int) (w : World) (h : gen_P64_13.f k a0 a1 = some r) :
    Calls Try.prog 13 #[.int .u64 a0, .int .u64 a1] w fun e w' => e = .returned (.int .u64 r) ∧ Below w.heap.size w w' := by
  unfold gen_P64_13.f at h
  obtain ⟨⟨r1, r2⟩, h1, h2⟩ := Option.bind_eq_some_iff.mp h
  obtain rfl := Option.some.inj h2
  clear h h2
  have H := Lib.hid h1
  clear h1
  go_enter Try.func13, Try.ntmps13
  go_wp2_with (go_at_call 58; refine (gen_P64_13.two k a0 a1 r1 r2 _ H.out).mono ?_; rintro e w' ⟨rfl, hb⟩)
  go_ret
  exact ⟨rfl, hb⟩
def gen_P8_14.f (k : Nat) (a0 : Int) (a1 : Int) : Option (Int) := (sum_Add.f k 8 (IntKind.u64.wrap a0) (IntKind.u64.wrap a1)).bind fun b => some (b.1 % 256)
set_option maxHeartbeats 2000000 in
theorem gen_P8_14.two (k : Nat) (a0 : Int) (a1 : Int) (r1 : Int) (r2 : Option Int) (w : World) (h : sum_Add.f k 8 (IntKind.u64.wrap a0) (IntKind.u64.wrap a1) = some (r1, r2)) :
    Calls Try.prog 59 #[.func (.func 32) #[] #[], .int .u8 a0, .int .u8 a1] w fun e w' => e = .returned (.int .u8 (r1 % 256)) ∧ Below w.heap.size w w' := by
  have hw : ∀ w : World, Calls Try.prog 57 #[] w fun e w' => e = .returned (.int .i64 8) ∧ Drawn0 w w' := fun w => gen_P8_57.calls 70 8 w (by decide +kernel)
  go_enter Try.func59, Try.ntmps59
  go_wp2_with (first | (go_at_call 57; refine (hw _).mono ?_; rintro e w' ⟨rfl, ⟨nd, rfl⟩⟩) | (go_at_call 32; refine (sum_Add.calls k 8 (IntKind.u64.wrap a0) (IntKind.u64.wrap a1) r1 r2 _ h).mono ?_; rintro e w' ⟨rfl, hb⟩))
  go_ret
  exact ⟨rfl, below_then (pw_below_drewN (Below.refl _ _) nd) (Nat.le_refl _) hb⟩
theorem gen_P8_14.calls (k : Nat) (a0 : Int) (a1 : Int) (r : Int) (w : World) (h : gen_P8_14.f k a0 a1 = some r) :
    Calls Try.prog 14 #[.int .u8 a0, .int .u8 a1] w fun e w' => e = .returned (.int .u8 r) ∧ Below w.heap.size w w' := by
  unfold gen_P8_14.f at h
  obtain ⟨⟨r1, r2⟩, h1, h2⟩ := Option.bind_eq_some_iff.mp h
  obtain rfl := Option.some.inj h2
  clear h h2
  have H := Lib.hid h1
  clear h1
  go_enter Try.func14, Try.ntmps14
  go_wp2_with (go_at_call 59; refine (gen_P8_14.two k a0 a1 r1 r2 _ H.out).mono ?_; rintro e w' ⟨rfl, hb⟩)
  go_ret
  exact ⟨rfl, hb⟩
def gen_P64_15.f (k : Nat) (a0 : Int) (a1 : Int) : Option (Int) := (sum_Sub.f k 64 a0 a1).bind fun b => some b.1
set_option maxHeartbeats 2000000 in
theorem gen_P64_15.two (k : Nat) (a0 : Int) (a1 : Int) (r1 : Int) (r2 : Option Int) (w : World) (h : sum_Sub.f k 64 a0 a1 = some (r1, r2)) :
    Calls Try.prog 58 #[.func (.func 52) #[] #[], .int .u64 a0, .int .u64 a1] w fun e w' => e = .returned (.int .u64 r1) ∧ Below w.heap.size w w' := by
  have hw : ∀ w : World, Calls Try.prog 22 #[] w fun e w' => e = .returned (.int .i64 64) ∧ Drawn0 w w' := fun w => gen_P64_22.calls 70 64 w (by decide +kernel)
  go_enter Try.func58, Try.ntmps58
  go_wp2_with (first | (go_at_call 22; refine (hw _).mono ?_; rintro e w' ⟨rfl, ⟨nd, rfl⟩⟩) | (go_at_call 52; refine (sum_Sub.calls k 64 a0 a1 r1 r2 _ h).mono ?_; rintro e w' ⟨rfl, hb⟩))
  go_ret
  exact ⟨rfl, below_then (pw_below_drewN (Below.refl _ _) nd) (Nat.le_refl _) hb⟩
theorem gen_P64_15.calls (k : Nat) (a0 : Int) (a1 : Int) (r : Int) (w : World) (h : gen_P64_15.f k a0 a1 = some r) :
    Calls Try.prog 15 #[.int .u64 a0, .int .u64 a1] w fun e w' => e = .returned (.int .u64 r) ∧ Below w.heap.size w w' := by
  unfold gen_P64_15.f at h
  obtain ⟨⟨r1, r2⟩, h1, h2⟩ := Option.bind_eq_some_iff.mp h
  obtain rfl := Option.some.inj h2
  clear h h2
  have H := Lib.hid h1
  clear h1
  go_enter Try.func15, Try.ntmps15
  go_wp2_with (go_at_call 58; refine (gen_P64_15.two k a0 a1 r1 r2 _ H.out).mono ?_; rintro e w' ⟨rfl, hb⟩)
  go_ret
  exact ⟨rfl, hb⟩
def gen_P8_16.f (k : Nat) (a0 : Int) (a1 : Int) : Option (Int) := (sum_Sub.f k 8 (IntKind.u64.wrap a0) (IntKind.u64.wrap a1)).bind fun b => some (b.1 % 256)
set_option maxHeartbeats 2000000 in
theorem gen_P8_16.two (k : Nat) (a0 : Int) (a1 : Int) (r1 : Int) (r2 : Option Int) (w : World) (h : sum_Sub.f k 8 (IntKind.u64.wrap a0) (IntKind.u64.wrap a1) = some (r1, r2)) :
    Calls Try.prog 59 #[.func (.func 52) #[] #[], .int .u8 a0, .int .u8 a1] w fun e w' => e = .returned (.int .u8 (r1 % 256)) ∧ Below w.heap.size w w' := by
  have hw : ∀ w : World, Calls Try.prog 57 #[] w fun e w' => e = .returned (.int .i64 8) ∧ Drawn0 w w' := fun w => gen_P8_57.calls 70 8 w (by decide +kernel)
  go_enter Try.func59, Try.ntmps59
  go_wp2_with (first | (go_at_call 57; refine (hw _).mono ?_; rintro e w' ⟨rfl, ⟨nd, rfl⟩⟩) | (go_at_call 52; refine (sum_Sub.calls k 8 (IntKind.u64.wrap a0) (IntKind.u64.wrap a1) r1 r2 _ h).mono ?_; rintro e w' ⟨rfl, hb⟩))
  go_ret
  exact ⟨rfl, below_then (pw_below_drewN (Below.refl _ _) nd) (Nat.le_refl _) hb⟩
theorem gen_P8_16.calls (k : Nat) (a0 : Int) (a1 : Int) (r : Int) (w : World) (h : gen_P8_16.f k a0 a1 = some r) :
    Calls Try.prog 16 #[.int .u8 a0, .int .u8 a1] w fun e w' => e = .returned (.int .u8 r) ∧ Below w.heap.size w w' := by
  unfold gen_P8_16.f at h
  obtain ⟨⟨r1, r2⟩, h1, h2⟩ := Option.bind_eq_some_iff.mp h
  obtain rfl := Option.some.inj h2
  clear h h2
  have H := Lib.hid h1
  clear h1
  go_enter Try.func16, Try.ntmps16
  go_wp2_with (go_at_call 59; refine (gen_P8_16.two k a0 a1 r1 r2 _ H.out).mono ?_; rintro e w' ⟨rfl, hb⟩)
  go_ret
  exact ⟨rfl, hb⟩
def gen_P64_17.f (k : Nat) (a0 : Int) (a1 : Int) : Option (Int) := (prod_Mul.f k 64 a0 a1).bind fun b => some b.1
set_option maxHeartbeats 2000000 in
theorem gen_P64_17.two (k : Nat) (a0 : Int) (a1 : Int) (r1 : Int) (r2 : Option Int) (w : World) (h : prod_Mul.f k 64 a0 a1 = some (r1, r2)) :
    Calls Try.prog 58 #[.func (.func 60) #[] #[], .int .u64 a0, .int .u64 a1] w fun e w' => e = .returned (.int .u64 r1) ∧ Below w.heap.size w w' := by
  have hw : ∀ w : World, Calls Try.prog 22 #[] w fun e w' => e = .returned (.int .i64 64) ∧ Drawn0 w w' := fun w => gen_P64_22.calls 70 64 w (by decide +kernel)
  go_enter Try.func58, Try.ntmps58
  go_wp2_with (first | (go_at_call 22; refine (hw _).mono ?_; rintro e w' ⟨rfl, ⟨nd, rfl⟩⟩) | (go_at_call 60; refine (prod_Mul.calls k 64 a0 a1 r1 r2 _ h).mono ?_; rintro e w' ⟨rfl, hb⟩))
  go_ret
  exact ⟨rfl, below_then (pw_below_drewN (Below.refl _ _) nd) (Nat.le_refl _) hb⟩
theorem gen_P64_17.calls (k : Nat) (a0 : Int) (a1 : Int) (r : Int) (w : World) (h : gen_P64_17.f k a0 a1 = some r) :
    Calls Try.prog 17 #[.int .u64 a0, .int .u64 a1] w fun e w' => e = .returned (.int .u64 r) ∧ Below w.heap.size w w' := by
  unfold gen_P64_17.f at h
  obtain ⟨⟨r1, r2⟩, h1, h2⟩ := Option.bind_eq_some_iff.mp h
  obtain rfl := Option.some.inj h2
  clear h h2
  have H := Lib.hid h1
  clear h1
  go_enter Try.func17, Try.ntmps17
  go_wp2_with (go_at_call 58; refine (gen_P64_17.two k a0 a1 r1 r2 _ H.out).mono ?_; rintro e w' ⟨rfl, hb⟩)
  go_ret
  exact ⟨rfl, hb⟩
def gen_P8_18.f (k : Nat) (a0 : Int) (a1 : Int) : Option (Int) := (prod_Mul.f k 8 (IntKind.u64.wrap a0) (IntKind.u64.wrap a1)).bind fun b => some (b.1 % 256)
set_option maxHeartbeats 2000000 in
theorem gen_P8_18.two (k : Nat) (a0 : Int) (a1 : Int) (r1 : Int) (r2 : Option Int) (w : World) (h : prod_Mul.f k 8 (IntKind.u64.wrap a0) (IntKind.u64.wrap a1) = some (r1, r2)) :
    Calls Try.prog 59 #[.func (.func 60) #[] #[], .int .u8 a0, .int .u8 a1] w fun e w' => e = .returned (.int .u8 (r1 % 256)) ∧ Below w.heap.size w w' := by
  have hw : ∀ w : World, Calls Try.prog 57 #[] w fun e w' => e = .returned (.int .i64 8) ∧ Drawn0 w w' := fun w => gen_P8_57.calls 70 8 w (by decide +kernel)
  go_enter Try.func59, Try.ntmps59
  go_wp2_with (first | (go_at_call 57; refine (hw _).mono ?_; rintro e w' ⟨rfl, ⟨nd, rfl⟩⟩) | (go_at_call 60; refine (prod_Mul.calls k 8 (IntKind.u64.wrap a0) (IntKind.u64.wrap a1) r1 r2 _ h).mono ?_; rintro e w' ⟨rfl, hb⟩))
  go_ret
  exact ⟨rfl, below_then (pw_below_drewN (Below.refl _ _) nd) (Nat.le_refl _) hb⟩
theorem gen_P8_18.calls (k : Nat) (a0 : Int) (a1 : Int) (r : Int) (w : World) (h : gen_P8_18.f k a0 a1 = some r) :
    Calls Try.prog 18 #[.int .u8 a0, .int .u8 a1] w fun e w' => e = .returned (.int .u8 r) ∧ Below w.heap.size w w' := by
  unfold gen_P8_18.f at h
  obtain ⟨⟨r1, r2⟩, h1, h2⟩ := Option.bind_eq_some_iff.mp h
  obtain rfl := Option.some.inj h2
  clear h h2
  have H := Lib.hid h1
  clear h1
  go_enter Try.func18, Try.ntmps18
  go_wp2_with (go_at_call 59; refine (gen_P8_18.two k a0 a1 r1 r2 _ H.out).mono ?_; rintro e w' ⟨rfl, hb⟩)
  go_ret
  exact ⟨rfl, hb⟩
def gen_P16_21.f (k : Nat) (a0 : Int) (a1 : Int) : Option (Int) := (prod_Mul.f k 16 (IntKind.u64.wrap a0) (IntKind.u64.wrap a1)).bind fun b => some (IntKind.u16.wrap b.1)
set_option maxHeartbeats 2000000 in
theorem gen_P16_21.two (k : Nat) (a0 : Int) (a1 : Int) (r1 : Int) (r2 : Option Int) (w : World) (h : prod_Mul.f k 16 (IntKind.u64.wrap a0) (IntKind.u64.wrap a1) = some (r1, r2)) :
    Calls Try.prog 62 #[.func (.func 60) #[] #[], .int .u16 a0, .int .u16 a1] w fun e w' => e = .returned (.int .u16 (IntKind.u16.wrap r1)) ∧ Below w.heap.size w w' := by
  have hw : ∀ w : World, Calls Try.prog 61 #[] w fun e w' => e = .returned (.int .i64 16) ∧ Drawn0 w w' := fun w => gen_P16_61.calls 70 16 w (by decide +kernel)
  go_enter Try.func62, Try.ntmps62
  go_wp2_with (first | (go_at_call 61; refine (hw _).mono ?_; rintro e w' ⟨rfl, ⟨nd, rfl⟩⟩) | (go_at_call 60; refine (prod_Mul.calls k 16 (IntKind.u64.wrap a0) (IntKind.u64.wrap a1) r1 r2 _ h).mono ?_; rintro e w' ⟨rfl, hb⟩))
  go_ret
  exact ⟨rfl, below_then (pw_below_drewN (Below.refl _ _) nd) (Nat.le_refl _) hb⟩
theorem gen_P16_21.calls (k : Nat) (a0 : Int) (a1 : Int) (r : Int) (w : World) (h : gen_P16_21.f k a0 a1 = some r) :
    Calls Try.prog 21 #[.int .u16 a0, .int .u16 a1] w fun e w' => e = .returned (.int .u16 r) ∧ Below w.heap.size w w' := by
  unfold gen_P16_21.f at h
  obtain ⟨⟨r1, r2⟩, h1, h2⟩ := Option.bind_eq_some_iff.mp h
  obtain rfl := Option.some.inj h2
  clear h h2
  have H := Lib.hid h1
  clear h1
  go_enter Try.func21, Try.ntmps21
  go_wp2_with (go_at_call 62; refine (gen_P16_21.two k a0 a1 r1 r2 _ H.out).mono ?_; rintro e w' ⟨rfl, hb⟩)
  go_ret
  exact ⟨rfl, hb⟩
end Go.Proofs.Ytnlbfomlfhigcaa.Q
