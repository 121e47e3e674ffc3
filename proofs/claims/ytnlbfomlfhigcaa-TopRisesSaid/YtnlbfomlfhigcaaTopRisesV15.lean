/- Walks and plain laws that the claim stands on: each theorem named calls says that a call of a function returns what its f computes; the others are plain laws of these f, and the words that the walks use. -/
import Derived.Test.YtnlbfomlfhigcaaTopRisesV2
import Derived.Test.YtnlbfomlfhigcaaTopRisesV8
import Derived.Test.YtnlbfomlfhigcaaTopRisesV14
import Derived.Test.YtnlbfomlfhigcaaTopRisesV4
import Derived.Test.YtnlbfomlfhigcaaTopRisesV7
namespace Go.Proofs.Ytnlbfomlfhigcaa.Q
open Go.RowKit Go.Proofs.YtnlbfomlfhigcaaW.PrintWords Go.Proofs.YtnlbfomlfhigcaaW.PrintLast Go.Proofs.YtnlbfomlfhigcaaW.PrintMore
attribute [local go_sem] max2_int min2_int max_two min_two max_three min_three max_four min_four
set_option linter.unusedVariables false
set_option linter.unusedSimpArgs false
mutual
def quot_Exact.l0 : Nat → List (S103) → Int → Int → Int → Bool → Int → Int → Int → Bool → Int → Int → Option (Int × Bool × Int × Int × Int × Bool × Option Int)
 | 0, _, _, _, _, _, _, _, _, _, _, _ => none
 | k + 1, x17, x18, x19, x1059000, x1059001, x1059002, x1059003, x1060000, x1060001, x1060002, x1060003 => if x19 < x18 then (if 0 ≤ x19 then (if x19 < (x17.length : Int) then ((round_Of.f k ((rd_T103 x17 x19).f0) ((rd_T103 x17 x19).f1) ((rd_T103 x17 x19).f2) ((rd_T103 x17 x19).f3)).bind fun bt1066 => (if bt1066.2.2.2.2.2.2.isNone = true then (quot_Exact.l0 k x17 x18 (wrap64 (x19 + 1)) x1059000 x1059001 x1059002 x1059003 x1060000 x1060001 x1060002 x1060003) else (some (0, false, 0, 0, 0, false, some (bt1066.2.2.2.2.2.2.getD 0))))) else (none)) else (none)) else (if x1059000 = 2 then (quot_Exact.j1 k (x1059000 == 2) x1059000 x1059001 x1059002 x1059003 x1060000 x1060001 x1060002 x1060003) else (quot_Exact.j1 k (x1060000 != 1) x1059000 x1059001 x1059002 x1059003 x1060000 x1060001 x1060002 x1060003))
def quot_Exact.j1 : Nat → Bool → Int → Bool → Int → Int → Int → Bool → Int → Int → Option (Int × Bool × Int × Int × Int × Bool × Option Int)
 | 0, _, _, _, _, _, _, _, _, _ => none
 | k + 1, x33, x1059000, x1059001, x1059002, x1059003, x1060000, x1060001, x1060002, x1060003 => if x33 = true then (some (2, false, 0, 0, 0, false, none)) else (if x1059000 = 0 then (some (0, false, 0, 0, 0, false, none)) else (if x1059003 ≥ x1060003 then (quot_Exact.j2 k (wrap64 ((wrap64 ((wrap64 (x1059002 - x1060002)) - 1)) + 1)) x1059000 x1059001 x1059002 x1059003 x1060000 x1060001 x1060002 x1060003 (x1059003 / 2) (IntKind.u64.wrap (x1059003 * 9223372036854775808))) else (quot_Exact.j2 k (wrap64 ((wrap64 (x1059002 - x1060002)) - 1)) x1059000 x1059001 x1059002 x1059003 x1060000 x1060001 x1060002 x1060003 x1059003 0)))
def quot_Exact.j2 : Nat → Int → Int → Bool → Int → Int → Int → Bool → Int → Int → Int → Int → Option (Int × Bool × Int × Int × Int × Bool × Option Int)
 | 0, _, _, _, _, _, _, _, _, _, _, _ => none
 | k + 1, x11, x1059000, x1059001, x1059002, x1059003, x1060000, x1060001, x1060002, x1060003, x1076000, x1076001 => (part_Div.f k x1076000 x1076001 x1060003).bind fun bt1076 => (some (1, (x1059001 != x1060001), x11, bt1076.1, 0, decide (bt1076.2.1 > 0), bt1076.2.2))
end
def quot_Exact.f (k : Nat) (a0_0 : Int) (a0_1 : Bool) (a0_2 : Int) (a0_3 : Int) (a1_0 : Int) (a1_1 : Bool) (a1_2 : Int) (a1_3 : Int) : Option (Int × Bool × Int × Int × Int × Bool × Option Int) := (some (([(⟨a0_0, a0_1, a0_2, a0_3⟩ : S103), (⟨a1_0, a1_1, a1_2, a1_3⟩ : S103)] : List (S103)) : List (S103))).bind fun y1061 => (quot_Exact.l0 k y1061 (y1061.length : Int) 0 a0_0 a0_1 a0_2 a0_3 a1_0 a1_1 a1_2 a1_3)
set_option maxHeartbeats 8000000 in
set_option maxRecDepth 100000 in
theorem quot_Exact.calls (k : Nat) (a0_0 : Int) (a0_1 : Bool) (a0_2 : Int) (a0_3 : Int) (a1_0 : Int) (a1_1 : Bool) (a1_2 : Int) (a1_3 : Int) (r1 : Int) (r2 : Bool) (r3 : Int) (r4 : Int) (r5 : Int) (r6 : Bool) (r7 : Option Int) (w : World) (h : quot_Exact.f k a0_0 a0_1 a0_2 a0_3 a1_0 a1_1 a1_2 a1_3 = some (r1, r2, r3, r4, r5, r6, r7)) :
  Calls Try.prog 91 #[.agg #[.int .i64 a0_0, .bool a0_1, .int .i64 a0_2, .int .u64 a0_3], .agg #[.int .i64 a1_0, .bool a1_1, .int .i64 a1_2, .int .u64 a1_3]] w fun e w' => e = .returned (.tuple #[.agg #[.int .i64 r1, .bool r2, .int .i64 r3, .int .u64 r4, .int .u64 r5, .bool r6], errW r7]) ∧ Below w.heap.size w w' := by
 have hu103 := Try.underlying103
 have hu86 := Try.underlying86
 have hu155 := Try.underlying155
 have hu43 := Try.underlying43
 have hu82 := Try.underlying82
 have HB := Aside0.mk (Below.refl w.heap.size w)
 have H := h
 clear h
 unfold quot_Exact.f at H
 obtain ⟨y1061, hy1061⟩ : ∃ y_ : List (S103), y_ = (([(⟨a0_0, a0_1, a0_2, a0_3⟩ : S103), (⟨a1_0, a1_1, a1_2, a1_3⟩ : S103)] : List (S103))) := ⟨_, rfl⟩
 replace H : (quot_Exact.l0 k y1061 (y1061.length : Int) 0 a0_0 a0_1 a0_2 a0_3 a1_0 a1_1 a1_2 a1_3) = some (r1, r2, r3, r4, r5, r6, r7) := by first | (rw [hy1061]; with_reducible exact H) | (have H2_ := (Option.bind_some _ _).symm.trans H; rw [hy1061]; with_reducible exact H2_) | (have H2_ := (Option.bind_some _ _).symm.trans H; with_reducible exact H2_) | with_reducible exact H | (rw [hy1061]; exact H) | exact H
 have Ny1061 := Aside0.mk hy1061
 clear hy1061
 have H' := Aside0.mk H
 clear H
 go_enter Try.func91, Try.ntmps91
 go_wp2_with (first | ((with_reducible refine gate_dst (N := 2) rfl ?_); refine boxA 2 (#[.int .i64 a0_0, .bool a0_1, .int .i64 a0_2, .int .u64 a0_3]) 103 ?_; intro gb1058 hg w3 BK1058 hb; have GW1058 := geT hg; have GE1058 := GW1058; replace HB := hbS hb; clear hb hg) | ((with_reducible refine gate_dst (N := 3) rfl ?_); refine boxA 3 (#[.int .i64 a1_0, .bool a1_1, .int .i64 a1_2, .int .u64 a1_3]) 103 ?_; intro gb1059 hg w4 BK1059 hb; have GW1059 := geT hg; have GE1059 := GW1059; obtain ⟨NB1058_1059, NB1059_1058⟩ := neT BK1058 hg; replace BK1058 := bkB BK1058 hb; replace HB := hbS hb; clear hb hg) | ((with_reducible refine gate_dst (N := 4) rfl ?_); refine boxA 4 (#[.int .i64 0, .bool false, .int .i64 0, .int .u64 0, .int .u64 0, .bool false]) 86 ?_; intro gb1060 hg w5 BK1060 hb; have GW1060 := geT hg; have GE1060 := GW1060; obtain ⟨NB1058_1060, NB1060_1058⟩ := neT BK1058 hg; obtain ⟨NB1059_1060, NB1060_1059⟩ := neT BK1059 hg; replace BK1058 := bkB BK1058 hb; replace BK1059 := bkB BK1059 hb; replace HB := hbS hb; clear hb hg; have hnb6 := NB1058_1059.out; have hnc6 := NB1059_1058.out; have hnb7 := NB1058_1060.out; have hnc7 := NB1060_1058.out; obtain ⟨z8_0, z8_1, z8_2, z8_3, y8_0, y8_1, y8_2, y8_3⟩ := cz4 BK1058; have hnb9 := NB1059_1060.out; have hnc9 := NB1060_1059.out; obtain ⟨z10_0, z10_1, z10_2, z10_3, y10_0, y10_1, y10_2, y10_3⟩ := cz4 BK1059) | ((with_reducible refine gate_dst (N := 17) rfl ?_); refine Kd.R_lit k103 _ 103 ?hg (N := 17) ?hd (xs := ([(⟨a0_0, a0_1, a0_2, a0_3⟩ : S103), (⟨a1_0, a1_1, a1_2, a1_3⟩ : S103)] : List (S103))) (inner := [.int .i64 a0_0, .bool a0_1, .int .i64 a0_2, .int .u64 a0_3, .int .i64 a1_0, .bool a1_1, .int .i64 a1_2, .int .u64 a1_3]) (ok := fun _ => True) (okp := fun _ => True) ?hr ?hp (fun _ hk => hk) trivial (Below.refl _ _) (Nat.le_refl _) (by simp) ?_; (case hd => rfl); (case hg => rfl); (case hr => first | (go_simp; done) | (go_simp; rfl)); (case hp => exact (Reps.c4 (show Kd.M k103 _ _ _ (⟨a0_0, a0_1, a0_2, a0_3⟩ : S103) [.int .i64 a0_0, .bool a0_1, .int .i64 a0_2, .int .u64 a0_3] from (k103_mkM _ _ _ (⟨a0_0, a0_1, a0_2, a0_3⟩ : S103) )) (Reps.c4 (show Kd.M k103 _ _ _ (⟨a1_0, a1_1, a1_2, a1_3⟩ : S103) [.int .i64 a1_0, .bool a1_1, .int .i64 a1_2, .int .u64 a1_3] from (k103_mkM _ _ _ (⟨a1_0, a1_1, a1_2, a1_3⟩ : S103) )) (Reps.none _ _)))); intro v1062 w11 ho12 hb hg_ hnew_; clear hg_ hnew_; (first | rw [← Ny1061.out] at ho12 | (simp only [Int.reduceToNat] at ho12; rw [← Ny1061.out] at ho12)); have HO1063 := Aside0.mk (Kd.R_lower (Kd.R_newB (Kd.R_newB ho12 (g := gb1058) (o := .cells #[.int .i64 a0_0, .bool a0_1, .int .i64 a0_2, .int .u64 a0_3] 103 (0, 0)) (bkT BK1058)) (g := gb1059) (o := .cells #[.int .i64 a1_0, .bool a1_1, .int .i64 a1_2, .int .u64 a1_3] 103 (0, 0)) (bkT BK1059)) (below_size hbT)); replace BK1058 := bkB BK1058 hb; replace BK1059 := bkB BK1059 hb; replace BK1060 := bkB BK1060 hb; replace HB := hbS hb; clear hb ho12; obtain ⟨Ao13, co13, eo13⟩ := Kd.R_slice HO1063.out; subst eo13))
 go_loopg [19] k (fun kq v19 w' => ∃ (x19_1 : Int) (x1061000_1 : Int) (x1061001_1 : Bool) (x1061002_1 : Int) (x1061003_1 : Int) (x1061004_1 : Int) (x1061005_1 : Bool), v19 = .int .i64 x19_1 ∧ Aside0 (quot_Exact.l0 kq y1061 (y1061.length : Int) x19_1 a0_0 a0_1 a0_2 a0_3 a1_0 a1_1 a1_2 a1_3 = some (r1, r2, r3, r4, r5, r6, r7)) ∧ Aside0 (kq ≤ k) ∧ Aside0 (Kd.R k103 103 w' w.heap.size (fun k_ => k_ ≠ gb1058 ∧ k_ ≠ gb1059) (.slice Ao13 y1061.length co13) y1061) ∧ Aside0 (w'.heap[gb1058]? = some (.cells #[.int .i64 a0_0, .bool a0_1, .int .i64 a0_2, .int .u64 a0_3] 103 (0, 0))) ∧ Aside0 (w'.heap[gb1059]? = some (.cells #[.int .i64 a1_0, .bool a1_1, .int .i64 a1_2, .int .u64 a1_3] 103 (0, 0))) ∧ Aside0 (w'.heap[gb1060]? = some (.cells #[.int .i64 x1061000_1, .bool x1061001_1, .int .i64 x1061002_1, .int .u64 x1061003_1, .int .u64 x1061004_1, .bool x1061005_1] 86 (0, 0))) ∧ Aside0 (Below w.heap.size w w'))
 case atStart => exact ⟨(0), (0), (false), (0), (0), (0), (false), okT, H', ⟨Nat.le_refl _⟩, ⟨by (with_reducible repeat (first | apply Kd.R_alloc | apply Kd.R_drewN | apply Kd.R_drew)); exact Kd.R_mono HO1063.out (fun _ hk => ⟨hk.1.2, hk.2⟩)⟩, ⟨bkT BK1058⟩, ⟨bkT BK1059⟩, ⟨bkT BK1060⟩, ⟨hbT⟩⟩
 case round =>
  clear H'
  try clear z10_0 z10_1 z10_2 z10_3 y10_0 y10_1 y10_2 y10_3
  try clear z8_0 z8_1 z8_2 z8_3 y8_0 y8_1 y8_2 y8_3
  obtain ⟨x19_1, x1061000_1, x1061001_1, x1061002_1, x1061003_1, x1061004_1, x1061005_1, rfl, HA, HK1, HO_17, BK1058, BK1059, BK1060, HB⟩ := hrel
  cases gk with
  | zero => exact absurd HA.out (by simp [quot_Exact.l0])
  | succ k1 =>
   have H := HA.out
   clear HA
   simp only [quot_Exact.l0] at H
   by_cases c14 : x19_1 < (y1061.length : Int)
   ·rw [if_pos c14] at H
    have c14b0 : decide (x19_1 < (y1061.length : Int)) = true := decide_eq_true c14
    clear c14
    by_cases c15 : 0 ≤ x19_1
    ·rw [if_pos c15] at H
     have c15b0 : decide (0 ≤ x19_1) = true := decide_eq_true c15
     clear c15
     by_cases c16 : x19_1 < (y1061.length : Int)
     ·rw [if_pos c16] at H
      have c16b0 : decide (x19_1 < (y1061.length : Int)) = true := decide_eq_true c16
      clear c16
      replace H := Option.bind_eq_some_iff.mp H
      obtain ⟨⟨t1066, t1067, t1068, t1069, t1070, t1071, t1072⟩, A170, H⟩ := H
      try dsimp only at H
      have A17 := Aside0.mk A170
      clear A170
      rcases t1072 with _ | q1074
      ·rw [if_pos (show (none : Option Int).isNone = true by rfl)] at H
       try simp only [errW_none, errW_some]
       have H' := Aside0.mk H
       clear H
       have p1064 : 0 ≤ (x19_1 : Int) := of_decide_eq_true (by first | (with_reducible assumption) | assumption)
       have q1064 : x19_1 < (y1061.length : Int) := of_decide_eq_true (by first | (with_reducible assumption) | assumption)
       obtain ⟨ad1064, e1064, hx1064_0, hx1064_1, hx1064_2, hx1064_3⟩ := at_T103 (Kd.R_reads' HO_17.out).2.2 x19_1 p1064 q1064
       cases e1064
       replace p1064 := eq_true p1064
       replace q1064 := eq_true q1064
       go_wp2_with (first | ((with_reducible refine gate_dst (N := 7) rfl ?_); refine box_event ?hg (N := 7) ?hd (cs := #[.int .i64 0, .bool false, .int .i64 0, .int .u64 0]) (t := 103) ?hr ?_; (case hd => rfl); (case hg => rfl); (case hr => first | (go_simp; done) | (go_simp; rfl)); intro gb1065 hg w18 hbox hb; have n0_ := Aside0.mk (Kd.R_below (Kd.R_elderB (by (with_reducible repeat (first | apply Kd.R_alloc | apply Kd.R_drewN | apply Kd.R_drew)); exact HO_17.out) gb1065 (Nat.le_of_eq hg.symm)) hb); have n1_ := bkB BK1058 hb; have n2_ := bkB BK1059 hb; have n3_ := bkB BK1060 hb; have n4_ := hbS hb; have n5_ := Aside0.mk (hbox); have n6_ := geT hg; have n7_ := geT hg; have n8_ := nlT BK1058 hg; have n9_ := ngT BK1058 hg; have n10_ := nlT BK1059 hg; have n11_ := ngT BK1059 hg; have n12_ := nlT BK1060 hg; have n13_ := ngT BK1060 hg; clear HO_17; clear BK1058; clear BK1059; clear BK1060; clear HB; have HO_17 := n0_; have BK1058 := n1_; have BK1059 := n2_; have BK1060 := n3_; have HB := n4_; have BK1065 := n5_; have GW1065 := n6_; have GE1065 := n7_; have NB1058_1065 := n8_; have NB1065_1058 := n9_; have NB1059_1065 := n10_; have NB1065_1059 := n11_; have NB1060_1065 := n12_; have NB1065_1060 := n13_; clear n0_ n1_ n2_ n3_ n4_ n5_ n6_ n7_ n8_ n9_ n10_ n11_ n12_ n13_; clear hb hbox hg; have hnb19 := NB1065_1058.out; have hnc19 := NB1058_1065.out; have hnb20 := NB1065_1059.out; have hnc20 := NB1059_1065.out; have hnb21 := NB1065_1060.out; have hnc21 := NB1060_1065.out; obtain ⟨z22_0, z22_1, z22_2, z22_3, y22_0, y22_1, y22_2, y22_3⟩ := cz4 BK1065) | ((with_reducible refine gate_callee (f := 78) rfl ?_); refine goA (some 25) Try.func78 (round_Of.calls k1 ((rd_T103 y1061 x19_1).f0) ((rd_T103 y1061 x19_1).f1) ((rd_T103 y1061 x19_1).f2) ((rd_T103 y1061 x19_1).f3) t1066 t1067 t1068 t1069 t1070 t1071 none _ A17.out) ?_; intro w23 hb; have n0_ := Aside0.mk (Kd.R_below (by (with_reducible repeat (first | apply Kd.R_alloc | apply Kd.R_drewN | apply Kd.R_drew)); exact (Kd.R_mono (Kd.R_far (p := ⟨gb1065, 3, none⟩) (Kd.R_far (p := ⟨gb1065, 2, none⟩) (Kd.R_far (p := ⟨gb1065, 1, none⟩) (Kd.R_far (p := ⟨gb1065, 0, none⟩) (Kd.R_mono HO_17.out (fun k_ hk => (⟨hk, hk.2⟩ : _ ∧ k_ ≠ gb1065))) (fun _ hk => hk.2) (.int .i64 ((rd_T103 y1061 x19_1).f0))) (fun _ hk => hk.2) (.bool ((rd_T103 y1061 x19_1).f1))) (fun _ hk => hk.2) (.int .i64 ((rd_T103 y1061 x19_1).f2))) (fun _ hk => hk.2) (.int .u64 ((rd_T103 y1061 x19_1).f3))) (fun _ h_ => h_.1))) hb); have n1_ := bkB BK1058 hb; have n2_ := bkB BK1059 hb; have n3_ := bkB BK1060 hb; have n4_ := bkB (o := .cells #[.int .i64 ((rd_T103 y1061 x19_1).f0), .bool ((rd_T103 y1061 x19_1).f1), .int .i64 ((rd_T103 y1061 x19_1).f2), .int .u64 ((rd_T103 y1061 x19_1).f3)] 103 (0, 0)) BK1065 hb; have n5_ := hbS hb; clear HO_17; clear BK1058; clear BK1059; clear BK1060; clear BK1065; clear HB; have HO_17 := n0_; have BK1058 := n1_; have BK1059 := n2_; have BK1060 := n3_; have BK1065 := n4_; have HB := n5_; clear n0_ n1_ n2_ n3_ n4_ n5_; clear hb; (try simp only [errW_none, errW_some])) | ((with_reducible refine gate_dst (N := 8) rfl ?_); refine box_event ?hg (N := 8) ?hd (cs := #[.int .i64 0, .bool false, .int .i64 0, .int .u64 0, .int .u64 0, .bool false]) (t := 86) ?hr ?_; (case hd => rfl); (case hg => rfl); (case hr => first | (go_simp; done) | (go_simp; rfl)); intro gb1073 hg w24 hbox hb; have n0_ := Aside0.mk (Kd.R_below (by (with_reducible repeat (first | apply Kd.R_alloc | apply Kd.R_drewN | apply Kd.R_drew)); exact HO_17.out) hb); have n1_ := bkB BK1058 hb; have n2_ := bkB BK1059 hb; have n3_ := bkB BK1060 hb; have n4_ := bkB BK1065 hb; have n5_ := hbS hb; have n6_ := Aside0.mk (hbox); have n7_ := geT hg; have n8_ := geT hg; have n9_ := nlT BK1058 hg; have n10_ := ngT BK1058 hg; have n11_ := nlT BK1059 hg; have n12_ := ngT BK1059 hg; have n13_ := nlT BK1060 hg; have n14_ := ngT BK1060 hg; have n15_ := nlT BK1065 hg; have n16_ := ngT BK1065 hg; clear HO_17; clear BK1058; clear BK1059; clear BK1060; clear BK1065; clear HB; have HO_17 := n0_; have BK1058 := n1_; have BK1059 := n2_; have BK1060 := n3_; have BK1065 := n4_; have HB := n5_; have BK1073 := n6_; have GW1073 := n7_; have GE1073 := n8_; have NB1058_1073 := n9_; have NB1073_1058 := n10_; have NB1059_1073 := n11_; have NB1073_1059 := n12_; have NB1060_1073 := n13_; have NB1073_1060 := n14_; have NB1065_1073 := n15_; have NB1073_1065 := n16_; clear n0_ n1_ n2_ n3_ n4_ n5_ n6_ n7_ n8_ n9_ n10_ n11_ n12_ n13_ n14_ n15_ n16_; clear hb hbox hg; have hnb25 := NB1073_1058.out; have hnc25 := NB1058_1073.out; have hnb26 := NB1073_1059.out; have hnc26 := NB1059_1073.out; have hnb27 := NB1073_1060.out; have hnc27 := NB1060_1073.out; have hnb28 := NB1073_1065.out; have hnc28 := NB1065_1073.out; obtain ⟨z29_0, z29_1, z29_2, z29_3, z29_4, z29_5, y29_0, y29_1, y29_2, y29_3, y29_4, y29_5⟩ := cz6 BK1073))
       go_roundg k1
       case measure => have := HK1.out; omega
       case rel => exact ⟨(wrap64 (x19_1 + 1)), (x1061000_1), (x1061001_1), (x1061002_1), (x1061003_1), (x1061004_1), (x1061005_1), okT, H', ⟨by have := HK1.out; omega⟩, ⟨by (with_reducible repeat (first | apply Kd.R_alloc | apply Kd.R_drewN | apply Kd.R_drew)); exact Kd.R_mono (Kd.R_far (p := ⟨gb1073, 5, none⟩) (Kd.R_far (p := ⟨gb1073, 4, none⟩) (Kd.R_far (p := ⟨gb1073, 3, none⟩) (Kd.R_far (p := ⟨gb1073, 2, none⟩) (Kd.R_far (p := ⟨gb1073, 1, none⟩) (Kd.R_far (p := ⟨gb1073, 0, none⟩) (Kd.R_types HO_17.out BK1073.out (by decide)) (fun _ hk => hk.2) (.int .i64 t1066)) (fun _ hk => hk.2) (.bool t1067)) (fun _ hk => hk.2) (.int .i64 t1068)) (fun _ hk => hk.2) (.int .u64 t1069)) (fun _ hk => hk.2) (.int .u64 t1070)) (fun _ hk => hk.2) (.bool t1071)) (fun _ hk => ⟨hk.1.1.1, hk.1.1.2⟩)⟩, ⟨bkT BK1058⟩, ⟨bkT BK1059⟩, ⟨bkT BK1060⟩, ⟨hbT⟩⟩
      ·rw [if_neg (show ¬ (some q1074).isNone = true by simp)] at H
       try simp only [errW_none, errW_some]
       simp only [Option.some.injEq, Prod.mk.injEq] at H
       obtain ⟨rfl, rfl, rfl, rfl, rfl, rfl, rfl⟩ := H
       have p1064 : 0 ≤ (x19_1 : Int) := of_decide_eq_true (by first | (with_reducible assumption) | assumption)
       have q1064 : x19_1 < (y1061.length : Int) := of_decide_eq_true (by first | (with_reducible assumption) | assumption)
       obtain ⟨ad1064, e1064, hx1064_0, hx1064_1, hx1064_2, hx1064_3⟩ := at_T103 (Kd.R_reads' HO_17.out).2.2 x19_1 p1064 q1064
       cases e1064
       replace p1064 := eq_true p1064
       replace q1064 := eq_true q1064
       go_wp2_with (first | ((with_reducible refine gate_dst (N := 7) rfl ?_); refine box_event ?hg (N := 7) ?hd (cs := #[.int .i64 0, .bool false, .int .i64 0, .int .u64 0]) (t := 103) ?hr ?_; (case hd => rfl); (case hg => rfl); (case hr => first | (go_simp; done) | (go_simp; rfl)); intro gb1065 hg w30 hbox hb; have n0_ := Aside0.mk (Kd.R_below (Kd.R_elderB (by (with_reducible repeat (first | apply Kd.R_alloc | apply Kd.R_drewN | apply Kd.R_drew)); exact HO_17.out) gb1065 (Nat.le_of_eq hg.symm)) hb); have n1_ := bkB BK1058 hb; have n2_ := bkB BK1059 hb; have n3_ := bkB BK1060 hb; have n4_ := hbS hb; have n5_ := Aside0.mk (hbox); have n6_ := geT hg; have n7_ := geT hg; have n8_ := nlT BK1058 hg; have n9_ := ngT BK1058 hg; have n10_ := nlT BK1059 hg; have n11_ := ngT BK1059 hg; have n12_ := nlT BK1060 hg; have n13_ := ngT BK1060 hg; clear HO_17; clear BK1058; clear BK1059; clear BK1060; clear HB; have HO_17 := n0_; have BK1058 := n1_; have BK1059 := n2_; have BK1060 := n3_; have HB := n4_; have BK1065 := n5_; have GW1065 := n6_; have GE1065 := n7_; have NB1058_1065 := n8_; have NB1065_1058 := n9_; have NB1059_1065 := n10_; have NB1065_1059 := n11_; have NB1060_1065 := n12_; have NB1065_1060 := n13_; clear n0_ n1_ n2_ n3_ n4_ n5_ n6_ n7_ n8_ n9_ n10_ n11_ n12_ n13_; clear hb hbox hg; have hnb31 := NB1065_1058.out; have hnc31 := NB1058_1065.out; have hnb32 := NB1065_1059.out; have hnc32 := NB1059_1065.out; have hnb33 := NB1065_1060.out; have hnc33 := NB1060_1065.out; obtain ⟨z34_0, z34_1, z34_2, z34_3, y34_0, y34_1, y34_2, y34_3⟩ := cz4 BK1065) | ((with_reducible refine gate_callee (f := 78) rfl ?_); refine goA (some 25) Try.func78 (round_Of.calls k1 ((rd_T103 y1061 x19_1).f0) ((rd_T103 y1061 x19_1).f1) ((rd_T103 y1061 x19_1).f2) ((rd_T103 y1061 x19_1).f3) t1066 t1067 t1068 t1069 t1070 t1071 (some q1074) _ A17.out) ?_; intro w35 hb; have n0_ := Aside0.mk (Kd.R_below (by (with_reducible repeat (first | apply Kd.R_alloc | apply Kd.R_drewN | apply Kd.R_drew)); exact (Kd.R_mono (Kd.R_far (p := ⟨gb1065, 3, none⟩) (Kd.R_far (p := ⟨gb1065, 2, none⟩) (Kd.R_far (p := ⟨gb1065, 1, none⟩) (Kd.R_far (p := ⟨gb1065, 0, none⟩) (Kd.R_mono HO_17.out (fun k_ hk => (⟨hk, hk.2⟩ : _ ∧ k_ ≠ gb1065))) (fun _ hk => hk.2) (.int .i64 ((rd_T103 y1061 x19_1).f0))) (fun _ hk => hk.2) (.bool ((rd_T103 y1061 x19_1).f1))) (fun _ hk => hk.2) (.int .i64 ((rd_T103 y1061 x19_1).f2))) (fun _ hk => hk.2) (.int .u64 ((rd_T103 y1061 x19_1).f3))) (fun _ h_ => h_.1))) hb); have n1_ := bkB BK1058 hb; have n2_ := bkB BK1059 hb; have n3_ := bkB BK1060 hb; have n4_ := bkB (o := .cells #[.int .i64 ((rd_T103 y1061 x19_1).f0), .bool ((rd_T103 y1061 x19_1).f1), .int .i64 ((rd_T103 y1061 x19_1).f2), .int .u64 ((rd_T103 y1061 x19_1).f3)] 103 (0, 0)) BK1065 hb; have n5_ := hbS hb; clear HO_17; clear BK1058; clear BK1059; clear BK1060; clear BK1065; clear HB; have HO_17 := n0_; have BK1058 := n1_; have BK1059 := n2_; have BK1060 := n3_; have BK1065 := n4_; have HB := n5_; clear n0_ n1_ n2_ n3_ n4_ n5_; clear hb; (try simp only [errW_none, errW_some])) | ((with_reducible refine gate_dst (N := 8) rfl ?_); refine box_event ?hg (N := 8) ?hd (cs := #[.int .i64 0, .bool false, .int .i64 0, .int .u64 0, .int .u64 0, .bool false]) (t := 86) ?hr ?_; (case hd => rfl); (case hg => rfl); (case hr => first | (go_simp; done) | (go_simp; rfl)); intro gb1073 hg w36 hbox hb; have n0_ := Aside0.mk (Kd.R_below (by (with_reducible repeat (first | apply Kd.R_alloc | apply Kd.R_drewN | apply Kd.R_drew)); exact HO_17.out) hb); have n1_ := bkB BK1058 hb; have n2_ := bkB BK1059 hb; have n3_ := bkB BK1060 hb; have n4_ := bkB BK1065 hb; have n5_ := hbS hb; have n6_ := Aside0.mk (hbox); have n7_ := geT hg; have n8_ := geT hg; have n9_ := nlT BK1058 hg; have n10_ := ngT BK1058 hg; have n11_ := nlT BK1059 hg; have n12_ := ngT BK1059 hg; have n13_ := nlT BK1060 hg; have n14_ := ngT BK1060 hg; have n15_ := nlT BK1065 hg; have n16_ := ngT BK1065 hg; clear HO_17; clear BK1058; clear BK1059; clear BK1060; clear BK1065; clear HB; have HO_17 := n0_; have BK1058 := n1_; have BK1059 := n2_; have BK1060 := n3_; have BK1065 := n4_; have HB := n5_; have BK1073 := n6_; have GW1073 := n7_; have GE1073 := n8_; have NB1058_1073 := n9_; have NB1073_1058 := n10_; have NB1059_1073 := n11_; have NB1073_1059 := n12_; have NB1060_1073 := n13_; have NB1073_1060 := n14_; have NB1065_1073 := n15_; have NB1073_1065 := n16_; clear n0_ n1_ n2_ n3_ n4_ n5_ n6_ n7_ n8_ n9_ n10_ n11_ n12_ n13_ n14_ n15_ n16_; clear hb hbox hg; have hnb37 := NB1073_1058.out; have hnc37 := NB1058_1073.out; have hnb38 := NB1073_1059.out; have hnc38 := NB1059_1073.out; have hnb39 := NB1073_1060.out; have hnc39 := NB1060_1073.out; have hnb40 := NB1073_1065.out; have hnc40 := NB1065_1073.out; obtain ⟨z41_0, z41_1, z41_2, z41_3, z41_4, z41_5, y41_0, y41_1, y41_2, y41_3, y41_4, y41_5⟩ := cz6 BK1073; have hnb42 := NB1060_1058.out; have hnc42 := NB1058_1060.out; have hnb43 := NB1060_1059.out; have hnc43 := NB1059_1060.out; obtain ⟨z44_0, z44_1, z44_2, z44_3, z44_4, z44_5, y44_0, y44_1, y44_2, y44_3, y44_4, y44_5⟩ := cz6 BK1060))
       refine bodyPost_ret (results_ct rfl _ _ gb1060 86 #[.int .i64 0, .bool false, .int .i64 0, .int .u64 0, .int .u64 0, .bool false] (0, 0) _ rfl (bkT BK1060) Try.underlying86 rfl (by kernel_rfl)) rfl ?_
       exact ⟨reT, hbT⟩
     ·rw [if_neg c16] at H
      exact absurd H (by simp)
    ·rw [if_neg c15] at H
     exact absurd H (by simp)
   ·rw [if_neg c14] at H
    have c14b0 : decide (x19_1 < (y1061.length : Int)) = false := decide_eq_false c14
    clear c14
    have HC45 := Aside0.mk H
    clear H
    have hnb46 := NB1058_1059.out
    have hnc46 := NB1059_1058.out
    have hnb47 := NB1058_1060.out
    have hnc47 := NB1060_1058.out
    obtain ⟨z48_0, z48_1, z48_2, z48_3, y48_0, y48_1, y48_2, y48_3⟩ := cz4 BK1058
    go_upto_if 33 with (fail)
    go_cut [33] (fun v33 wc => ∃ (kq : Nat) (x33_44 : Bool), v33 = .bool x33_44 ∧ Aside0 (quot_Exact.j1 kq x33_44 a0_0 a0_1 a0_2 a0_3 a1_0 a1_1 a1_2 a1_3 = some (r1, r2, r3, r4, r5, r6, r7)) ∧ Aside0 (kq ≤ k1) ∧ Aside0 (wc.heap[gb1058]? = some (.cells #[.int .i64 a0_0, .bool a0_1, .int .i64 a0_2, .int .u64 a0_3] 103 (0, 0))) ∧ Aside0 (wc.heap[gb1059]? = some (.cells #[.int .i64 a1_0, .bool a1_1, .int .i64 a1_2, .int .u64 a1_3] 103 (0, 0))) ∧ Aside0 (wc.heap[gb1060]? = some (.cells #[.int .i64 x1061000_1, .bool x1061001_1, .int .i64 x1061002_1, .int .u64 x1061003_1, .int .u64 x1061004_1, .bool x1061005_1] 86 (0, 0))) ∧ Aside0 (Below w.heap.size w wc))
    case first =>
     have H := HC45.out
     clear HC45
     by_cases c49 : a0_0 = 2
     ·rw [if_pos c49] at H
      obtain ⟨c49b0, c49b1⟩ := eqY c49
      clear c49
      (first | rw [c49b0] | (simp only [i64_w, i32_w]; rw [c49b0]) | rw [c49b1] | skip)
      have H' := Aside0.mk H
      clear H
      go_wp2
      go_meet
      case rel => exact ⟨_, ((a0_0 == 2)), okT, H', ⟨by have := HK1.out; first | omega | exact Nat.le_refl _⟩, ⟨bkT BK1058⟩, ⟨bkT BK1059⟩, ⟨bkT BK1060⟩, ⟨hbT⟩⟩
     ·rw [if_neg c49] at H
      obtain ⟨c49b0, c49b1⟩ := eqN c49
      (first | rw [c49b0] | (simp only [i64_w, i32_w]; rw [c49b0]) | rw [c49b1] | skip)
      have H' := Aside0.mk H
      clear H
      have hnb50 := NB1059_1058.out
      have hnc50 := NB1058_1059.out
      have hnb51 := NB1059_1060.out
      have hnc51 := NB1060_1059.out
      obtain ⟨z52_0, z52_1, z52_2, z52_3, y52_0, y52_1, y52_2, y52_3⟩ := cz4 BK1059
      go_wp2
      go_meet
      case rel => exact ⟨_, ((a1_0 != 1)), okT, H', ⟨by have := HK1.out; first | omega | exact Nat.le_refl _⟩, ⟨bkT BK1058⟩, ⟨bkT BK1059⟩, ⟨bkT BK1060⟩, ⟨hbT⟩⟩
    case rest =>
     clear HC45
     try clear c14
     try clear c14b0
     try clear z48_0 z48_1 z48_2 z48_3 y48_0 y48_1 y48_2 y48_3
     obtain ⟨kq, x33_44, rfl, HA, HJ44, BK1058, BK1059, BK1060, HB⟩ := hcut
     cases kq with
     | zero => exact absurd HA.out (by simp [quot_Exact.j1])
     | succ kj44 =>
      have H := HA.out
      clear HA
      simp only [quot_Exact.j1] at H
      by_cases c53 : x33_44 = true
      ·subst c53
       rw [if_pos rfl] at H
       simp only [Option.some.injEq, Prod.mk.injEq] at H
       obtain ⟨rfl, rfl, rfl, rfl, rfl, rfl, rfl⟩ := H
       have hnb54 := NB1060_1058.out
       have hnc54 := NB1058_1060.out
       have hnb55 := NB1060_1059.out
       have hnc55 := NB1059_1060.out
       obtain ⟨z56_0, z56_1, z56_2, z56_3, z56_4, z56_5, y56_0, y56_1, y56_2, y56_3, y56_4, y56_5⟩ := cz6 BK1060
       go_wp2
       refine bodyPost_ret (results_ct rfl _ _ gb1060 86 #[.int .i64 2, .bool false, .int .i64 0, .int .u64 0, .int .u64 0, .bool false] (0, 0) _ rfl (bkT BK1060) Try.underlying86 rfl (by kernel_rfl)) rfl ?_
       exact ⟨reT, hbT⟩
      ·replace c53 := Bool.eq_false_iff.mpr c53
       subst c53
       rw [if_neg (show ¬ (false = true) by decide)] at H
       by_cases c57 : a0_0 = 0
       ·rw [if_pos c57] at H
        obtain ⟨c57b0, c57b1⟩ := eqY c57
        clear c57
        simp only [Option.some.injEq, Prod.mk.injEq] at H
        obtain ⟨rfl, rfl, rfl, rfl, rfl, rfl, rfl⟩ := H
        have hnb58 := NB1058_1059.out
        have hnc58 := NB1059_1058.out
        have hnb59 := NB1058_1060.out
        have hnc59 := NB1060_1058.out
        obtain ⟨z60_0, z60_1, z60_2, z60_3, y60_0, y60_1, y60_2, y60_3⟩ := cz4 BK1058
        have hnb61 := NB1060_1059.out
        have hnc61 := NB1059_1060.out
        obtain ⟨z62_0, z62_1, z62_2, z62_3, z62_4, z62_5, y62_0, y62_1, y62_2, y62_3, y62_4, y62_5⟩ := cz6 BK1060
        go_wp2
        refine bodyPost_ret (results_ct rfl _ _ gb1060 86 #[.int .i64 0, .bool false, .int .i64 0, .int .u64 0, .int .u64 0, .bool false] (0, 0) _ rfl (bkT BK1060) Try.underlying86 rfl (by kernel_rfl)) rfl ?_
        exact ⟨reT, hbT⟩
       ·rw [if_neg c57] at H
        obtain ⟨c57b0, c57b1⟩ := eqN c57
        have HC63 := Aside0.mk H
        clear H
        have hnb64 := NB1058_1059.out
        have hnc64 := NB1059_1058.out
        have hnb65 := NB1058_1060.out
        have hnc65 := NB1060_1058.out
        obtain ⟨z66_0, z66_1, z66_2, z66_3, y66_0, y66_1, y66_2, y66_3⟩ := cz4 BK1058
        go_upto_if 59 with (first | ((with_reducible refine gate_dst (N := 10) rfl ?_); refine boxA 10 (#[.int .u64 0, .int .u64 0]) 155 ?_; intro gb1075 hg w67 BK1075 hb; have GW1075 := geT hg; have GE1075 := GW1075; obtain ⟨NB1058_1075, NB1075_1058⟩ := neT BK1058 hg; obtain ⟨NB1059_1075, NB1075_1059⟩ := neT BK1059 hg; obtain ⟨NB1060_1075, NB1075_1060⟩ := neT BK1060 hg; replace BK1058 := bkB BK1058 hb; replace BK1059 := bkB BK1059 hb; replace BK1060 := bkB BK1060 hb; replace HB := hbS hb; clear hb hg; have hnb68 := NB1075_1058.out; have hnc68 := NB1058_1075.out; have hnb69 := NB1075_1059.out; have hnc69 := NB1059_1075.out; have hnb70 := NB1075_1060.out; have hnc70 := NB1060_1075.out; obtain ⟨z71_0, z71_1, y71_0, y71_1⟩ := cz2 BK1075; obtain ⟨z72_0, z72_1, z72_2, z72_3, y72_0, y72_1, y72_2, y72_3⟩ := cz4 BK1058; have hnb73 := NB1059_1060.out; have hnc73 := NB1060_1059.out; obtain ⟨z74_0, z74_1, z74_2, z74_3, y74_0, y74_1, y74_2, y74_3⟩ := cz4 BK1059))
        (try simp only [Act.put, List.setIfInBounds_toArray, List.set_cons_zero, List.set_cons_succ])
        go_cut [11] (fun v11 wc => ∃ (kq : Nat) (x11_62 : Int) (x1076000_62 : Int) (x1076001_62 : Int), v11 = .int .i64 x11_62 ∧ Aside0 (quot_Exact.j2 kq x11_62 a0_0 a0_1 a0_2 a0_3 a1_0 a1_1 a1_2 a1_3 x1076000_62 x1076001_62 = some (r1, r2, r3, r4, r5, r6, r7)) ∧ Aside0 (kq ≤ kj44) ∧ Aside0 (wc.heap[gb1058]? = some (.cells #[.int .i64 a0_0, .bool a0_1, .int .i64 a0_2, .int .u64 a0_3] 103 (0, 0))) ∧ Aside0 (wc.heap[gb1059]? = some (.cells #[.int .i64 a1_0, .bool a1_1, .int .i64 a1_2, .int .u64 a1_3] 103 (0, 0))) ∧ Aside0 (wc.heap[gb1060]? = some (.cells #[.int .i64 x1061000_1, .bool x1061001_1, .int .i64 x1061002_1, .int .u64 x1061003_1, .int .u64 x1061004_1, .bool x1061005_1] 86 (0, 0))) ∧ Aside0 (wc.heap[gb1075]? = some (.cells #[.int .u64 x1076000_62, .int .u64 x1076001_62] 155 (0, 0))) ∧ Aside0 (Below w.heap.size w wc))
        case first =>
         have H := HC63.out
         clear HC63
         by_cases c75 : a0_3 ≥ a1_3
         ·rw [if_pos c75] at H
          have c75b0 : decide (a1_3 ≤ a0_3) = true := decide_eq_true c75
          clear c75
          (first | rw [c75b0] | (simp only [i64_w, i32_w]; rw [c75b0]) | rw [c75b1] | skip)
          have H' := Aside0.mk H
          clear H
          have hnb76 := NB1058_1059.out
          have hnc76 := NB1059_1058.out
          have hnb77 := NB1058_1060.out
          have hnc77 := NB1060_1058.out
          have hnb78 := NB1058_1075.out
          have hnc78 := NB1075_1058.out
          obtain ⟨z79_0, z79_1, z79_2, z79_3, y79_0, y79_1, y79_2, y79_3⟩ := cz4 BK1058
          have hnb80 := NB1075_1059.out
          have hnc80 := NB1059_1075.out
          have hnb81 := NB1075_1060.out
          have hnc81 := NB1060_1075.out
          obtain ⟨z82_0, z82_1, y82_0, y82_1⟩ := cz2 BK1075
          go_wp2
          go_meet
          case rel => exact ⟨_, (wrap64 ((wrap64 ((wrap64 (a0_2 - a1_2)) - 1)) + 1)), (a0_3 / 2), (IntKind.u64.wrap (a0_3 * 9223372036854775808)), okT, H', ⟨by have := HK1.out; have := HJ44.out; first | omega | exact Nat.le_refl _⟩, ⟨bkT BK1058⟩, ⟨bkT BK1059⟩, ⟨bkT BK1060⟩, ⟨bkT BK1075⟩, ⟨hbT⟩⟩
         ·rw [if_neg c75] at H
          have c75b0 : decide (a1_3 ≤ a0_3) = false := decide_eq_false c75
          clear c75
          (first | rw [c75b0] | (simp only [i64_w, i32_w]; rw [c75b0]) | rw [c75b1] | skip)
          have H' := Aside0.mk H
          clear H
          go_wp2
          go_meet
          case rel => exact ⟨_, (wrap64 ((wrap64 (a0_2 - a1_2)) - 1)), (a0_3), (0), okT, H', ⟨by have := HK1.out; have := HJ44.out; first | omega | exact Nat.le_refl _⟩, ⟨bkT BK1058⟩, ⟨bkT BK1059⟩, ⟨bkT BK1060⟩, ⟨bkT BK1075⟩, ⟨hbT⟩⟩
        case rest =>
         clear HC63
         try clear c53
         try clear c57
         try clear c57b0
         try clear c57b1
         try clear z66_0 z66_1 z66_2 z66_3 y66_0 y66_1 y66_2 y66_3
         try clear z71_0 z71_1 y71_0 y71_1
         try clear z72_0 z72_1 z72_2 z72_3 y72_0 y72_1 y72_2 y72_3
         try clear z74_0 z74_1 z74_2 z74_3 y74_0 y74_1 y74_2 y74_3
         obtain ⟨kq, x11_62, x1076000_62, x1076001_62, rfl, HA, HJ62, BK1058, BK1059, BK1060, BK1075, HB⟩ := hcut
         cases kq with
         | zero => exact absurd HA.out (by simp [quot_Exact.j2])
         | succ kj62 =>
          have H := HA.out
          clear HA
          simp only [quot_Exact.j2] at H
          replace H := Option.bind_eq_some_iff.mp H
          obtain ⟨⟨t1076, t1077, t1078⟩, A830, H⟩ := H
          try dsimp only at H
          have A83 := Aside0.mk A830
          clear A830
          simp only [Option.some.injEq, Prod.mk.injEq] at H
          obtain ⟨rfl, rfl, rfl, rfl, rfl, rfl, rfl⟩ := H
          have hnb84 := NB1075_1058.out
          have hnc84 := NB1058_1075.out
          have hnb85 := NB1075_1059.out
          have hnc85 := NB1059_1075.out
          have hnb86 := NB1075_1060.out
          have hnc86 := NB1060_1075.out
          obtain ⟨z87_0, z87_1, y87_0, y87_1⟩ := cz2 BK1075
          have hnb88 := NB1059_1058.out
          have hnc88 := NB1058_1059.out
          have hnb89 := NB1059_1060.out
          have hnc89 := NB1060_1059.out
          obtain ⟨z90_0, z90_1, z90_2, z90_3, y90_0, y90_1, y90_2, y90_3⟩ := cz4 BK1059
          go_wp2_with (first | ((with_reducible refine gate_callee (f := 112) rfl ?_); refine goA (some 73) Try.func112 (part_Div.calls kj62 x1076000_62 x1076001_62 a1_3 t1076 t1077 t1078 _ A83.out) ?_; intro w91 hb; replace BK1058 := bkB BK1058 hb; replace BK1059 := bkB BK1059 hb; replace BK1060 := bkB BK1060 hb; replace BK1075 := bkB BK1075 hb; replace HB := hbS hb; clear hb; (try simp only [errW_none, errW_some]); have hnb92 := NB1058_1060.out; have hnc92 := NB1060_1058.out; obtain ⟨z93_0, z93_1, z93_2, z93_3, y93_0, y93_1, y93_2, y93_3⟩ := cz4 BK1058; obtain ⟨z94_0, z94_1, z94_2, z94_3, y94_0, y94_1, y94_2, y94_3⟩ := cz4 BK1059; obtain ⟨z95_0, z95_1, z95_2, z95_3, z95_4, z95_5, y95_0, y95_1, y95_2, y95_3, y95_4, y95_5⟩ := cz6 BK1060))
          refine bodyPost_ret (results_ct rfl _ _ gb1060 86 #[.int .i64 1, .bool (a0_1 != a1_1), .int .i64 x11_62, .int .u64 t1076, .int .u64 0, .bool (decide (t1077 > 0))] (0, 0) _ rfl (bkT BK1060) Try.underlying86 rfl (by kernel_rfl)) rfl ?_
          exact ⟨reT, hbT⟩
end Go.Proofs.Ytnlbfomlfhigcaa.Q
namespace Go.Proofs.Ytnlbfomlfhigcaa.Q
open Go.RowKit Go.Proofs.YtnlbfomlfhigcaaW.PrintWords Go.Proofs.YtnlbfomlfhigcaaW.PrintLast Go.Proofs.YtnlbfomlfhigcaaW.PrintMore
attribute [local go_sem] max2_int min2_int max_two min_two max_three min_three max_four min_four
set_option linter.unusedVariables false
set_option linter.unusedSimpArgs false
def quot_Div.f (k : Nat) (a0 : Int) (a1 : Int) (a2 : Int) : Option (Int × Option Int) := (codec_Decode.f k a0 a1).bind fun bt1079 => (if bt1079.2.2.2.2.isNone = true then ((codec_Decode.f k a0 a2).bind fun bt1086 => ((quot_Exact.f k bt1079.1 bt1079.2.1 bt1079.2.2.1 bt1079.2.2.2.1 bt1086.1 bt1086.2.1 bt1086.2.2.1 bt1086.2.2.2.1).bind fun bt1092 => (if bt1092.2.2.2.2.2.2.isNone = true then ((round_Round.f k a0 bt1092.1 bt1092.2.1 bt1092.2.2.1 bt1092.2.2.2.1 bt1092.2.2.2.2.1 bt1092.2.2.2.2.2.1).bind fun bt1101 => (some (bt1101.1, bt1101.2))) else (some (0, some (bt1092.2.2.2.2.2.2.getD 0)))))) else (some (0, some (bt1079.2.2.2.2.getD 0))))
set_option maxHeartbeats 8000000 in
set_option maxRecDepth 100000 in
theorem quot_Div.calls (k : Nat) (a0 : Int) (a1 : Int) (a2 : Int) (r1 : Int) (r2 : Option Int) (w : World) (h : quot_Div.f k a0 a1 a2 = some (r1, r2)) :
  Calls Try.prog 51 #[.int .i64 a0, .int .u64 a1, .int .u64 a2] w fun e w' => e = .returned (.tuple #[.int .u64 r1, errW r2]) ∧ Below w.heap.size w w' := by
 have hu103 := Try.underlying103
 have hu86 := Try.underlying86
 have hu43 := Try.underlying43
 have hu82 := Try.underlying82
 have HB := Aside0.mk (Below.refl w.heap.size w)
 have H := h
 clear h
 unfold quot_Div.f at H
 replace H := Option.bind_eq_some_iff.mp H
 obtain ⟨⟨t1079, t1080, t1081, t1082, t1083⟩, A40, H⟩ := H
 try dsimp only at H
 have A4 := Aside0.mk A40
 clear A40
 rcases t1083 with _ | q1085
 ·rw [if_pos (show (none : Option Int).isNone = true by rfl)] at H
  try simp only [errW_none, errW_some]
  replace H := Option.bind_eq_some_iff.mp H
  obtain ⟨⟨t1086, t1087, t1088, t1089, t1090⟩, A50, H⟩ := H
  try dsimp only at H
  have A5 := Aside0.mk A50
  clear A50
  replace H := Option.bind_eq_some_iff.mp H
  obtain ⟨⟨t1092, t1093, t1094, t1095, t1096, t1097, t1098⟩, A60, H⟩ := H
  try dsimp only at H
  have A6 := Aside0.mk A60
  clear A60
  rcases t1098 with _ | q1100
  ·rw [if_pos (show (none : Option Int).isNone = true by rfl)] at H
   try simp only [errW_none, errW_some]
   replace H := Option.bind_eq_some_iff.mp H
   obtain ⟨⟨t1101, t1102⟩, A70, H⟩ := H
   try dsimp only at H
   have A7 := Aside0.mk A70
   clear A70
   simp only [Option.some.injEq, Prod.mk.injEq] at H
   obtain ⟨rfl, rfl⟩ := H
   go_enter Try.func51, Try.ntmps51
   go_wp2_with (first | ((with_reducible refine gate_callee (f := 72) rfl ?_); refine goA (some 16) Try.func72 (codec_Decode.calls k a0 a1 t1079 t1080 t1081 t1082 none _ A4.out) ?_; intro w8 hb; replace HB := hbS hb; clear hb; (try simp only [errW_none, errW_some])) | ((with_reducible refine gate_dst (N := 8) rfl ?_); refine boxA 8 (#[.int .i64 0, .bool false, .int .i64 0, .int .u64 0]) 103 ?_; intro gb1084 hg w9 BK1084 hb; have GW1084 := geT hg; have GE1084 := GW1084; replace HB := hbS hb; clear hb hg; obtain ⟨z10_0, z10_1, z10_2, z10_3, y10_0, y10_1, y10_2, y10_3⟩ := cz4 BK1084) | ((with_reducible refine gate_callee (f := 72) rfl ?_); refine goA (some 25) Try.func72 (codec_Decode.calls k a0 a2 t1086 t1087 t1088 t1089 t1090 _ A5.out) ?_; intro w11 hb; replace BK1084 := bkB (o := .cells #[.int .i64 t1079, .bool t1080, .int .i64 t1081, .int .u64 t1082] 103 (0, 0)) BK1084 hb; replace HB := hbS hb; clear hb; (try simp only [errW_none, errW_some])) | ((with_reducible refine gate_dst (N := 10) rfl ?_); refine boxA 10 (#[.int .i64 0, .bool false, .int .i64 0, .int .u64 0]) 103 ?_; intro gb1091 hg w12 BK1091 hb; have GW1091 := geT hg; have GE1091 := GW1091; obtain ⟨NB1084_1091, NB1091_1084⟩ := neT BK1084 hg; replace BK1084 := bkB BK1084 hb; replace HB := hbS hb; clear hb hg; have hnb13 := NB1091_1084.out; have hnc13 := NB1084_1091.out; obtain ⟨z14_0, z14_1, z14_2, z14_3, y14_0, y14_1, y14_2, y14_3⟩ := cz4 BK1091; obtain ⟨z15_0, z15_1, z15_2, z15_3, y15_0, y15_1, y15_2, y15_3⟩ := cz4 BK1084) | ((with_reducible refine gate_callee (f := 91) rfl ?_); refine goA (some 31) Try.func91 (quot_Exact.calls k t1079 t1080 t1081 t1082 t1086 t1087 t1088 t1089 t1092 t1093 t1094 t1095 t1096 t1097 none _ A6.out) ?_; intro w16 hb; replace BK1084 := bkB BK1084 hb; replace BK1091 := bkB (o := .cells #[.int .i64 t1086, .bool t1087, .int .i64 t1088, .int .u64 t1089] 103 (0, 0)) BK1091 hb; replace HB := hbS hb; clear hb; (try simp only [errW_none, errW_some])) | ((with_reducible refine gate_dst (N := 12) rfl ?_); refine boxA 12 (#[.int .i64 0, .bool false, .int .i64 0, .int .u64 0, .int .u64 0, .bool false]) 86 ?_; intro gb1099 hg w17 BK1099 hb; have GW1099 := geT hg; have GE1099 := GW1099; obtain ⟨NB1084_1099, NB1099_1084⟩ := neT BK1084 hg; obtain ⟨NB1091_1099, NB1099_1091⟩ := neT BK1091 hg; replace BK1084 := bkB BK1084 hb; replace BK1091 := bkB BK1091 hb; replace HB := hbS hb; clear hb hg; have hnb18 := NB1099_1084.out; have hnc18 := NB1084_1099.out; have hnb19 := NB1099_1091.out; have hnc19 := NB1091_1099.out; obtain ⟨z20_0, z20_1, z20_2, z20_3, z20_4, z20_5, y20_0, y20_1, y20_2, y20_3, y20_4, y20_5⟩ := cz6 BK1099) | ((with_reducible refine gate_callee (f := 74) rfl ?_); refine goA (some 39) Try.func74 (round_Round.calls k a0 t1092 t1093 t1094 t1095 t1096 t1097 t1101 t1102 _ A7.out) ?_; intro w21 hb; replace BK1084 := bkB BK1084 hb; replace BK1091 := bkB BK1091 hb; replace BK1099 := bkB (o := .cells #[.int .i64 t1092, .bool t1093, .int .i64 t1094, .int .u64 t1095, .int .u64 t1096, .bool t1097] 86 (0, 0)) BK1099 hb; replace HB := hbS hb; clear hb; (try simp only [errW_none, errW_some])))
   go_ret2
   exact ⟨reT, hbT⟩
  ·rw [if_neg (show ¬ (some q1100).isNone = true by simp)] at H
   try simp only [errW_none, errW_some]
   simp only [Option.some.injEq, Prod.mk.injEq] at H
   obtain ⟨rfl, rfl⟩ := H
   go_enter Try.func51, Try.ntmps51
   go_wp2_with (first | ((with_reducible refine gate_callee (f := 72) rfl ?_); refine goA (some 16) Try.func72 (codec_Decode.calls k a0 a1 t1079 t1080 t1081 t1082 none _ A4.out) ?_; intro w22 hb; replace HB := hbS hb; clear hb; (try simp only [errW_none, errW_some])) | ((with_reducible refine gate_dst (N := 8) rfl ?_); refine boxA 8 (#[.int .i64 0, .bool false, .int .i64 0, .int .u64 0]) 103 ?_; intro gb1084 hg w23 BK1084 hb; have GW1084 := geT hg; have GE1084 := GW1084; replace HB := hbS hb; clear hb hg; obtain ⟨z24_0, z24_1, z24_2, z24_3, y24_0, y24_1, y24_2, y24_3⟩ := cz4 BK1084) | ((with_reducible refine gate_callee (f := 72) rfl ?_); refine goA (some 25) Try.func72 (codec_Decode.calls k a0 a2 t1086 t1087 t1088 t1089 t1090 _ A5.out) ?_; intro w25 hb; replace BK1084 := bkB (o := .cells #[.int .i64 t1079, .bool t1080, .int .i64 t1081, .int .u64 t1082] 103 (0, 0)) BK1084 hb; replace HB := hbS hb; clear hb; (try simp only [errW_none, errW_some])) | ((with_reducible refine gate_dst (N := 10) rfl ?_); refine boxA 10 (#[.int .i64 0, .bool false, .int .i64 0, .int .u64 0]) 103 ?_; intro gb1091 hg w26 BK1091 hb; have GW1091 := geT hg; have GE1091 := GW1091; obtain ⟨NB1084_1091, NB1091_1084⟩ := neT BK1084 hg; replace BK1084 := bkB BK1084 hb; replace HB := hbS hb; clear hb hg; have hnb27 := NB1091_1084.out; have hnc27 := NB1084_1091.out; obtain ⟨z28_0, z28_1, z28_2, z28_3, y28_0, y28_1, y28_2, y28_3⟩ := cz4 BK1091; obtain ⟨z29_0, z29_1, z29_2, z29_3, y29_0, y29_1, y29_2, y29_3⟩ := cz4 BK1084) | ((with_reducible refine gate_callee (f := 91) rfl ?_); refine goA (some 31) Try.func91 (quot_Exact.calls k t1079 t1080 t1081 t1082 t1086 t1087 t1088 t1089 t1092 t1093 t1094 t1095 t1096 t1097 (some q1100) _ A6.out) ?_; intro w30 hb; replace BK1084 := bkB BK1084 hb; replace BK1091 := bkB (o := .cells #[.int .i64 t1086, .bool t1087, .int .i64 t1088, .int .u64 t1089] 103 (0, 0)) BK1091 hb; replace HB := hbS hb; clear hb; (try simp only [errW_none, errW_some])) | ((with_reducible refine gate_dst (N := 12) rfl ?_); refine boxA 12 (#[.int .i64 0, .bool false, .int .i64 0, .int .u64 0, .int .u64 0, .bool false]) 86 ?_; intro gb1099 hg w31 BK1099 hb; have GW1099 := geT hg; have GE1099 := GW1099; obtain ⟨NB1084_1099, NB1099_1084⟩ := neT BK1084 hg; obtain ⟨NB1091_1099, NB1099_1091⟩ := neT BK1091 hg; replace BK1084 := bkB BK1084 hb; replace BK1091 := bkB BK1091 hb; replace HB := hbS hb; clear hb hg; have hnb32 := NB1099_1084.out; have hnc32 := NB1084_1099.out; have hnb33 := NB1099_1091.out; have hnc33 := NB1091_1099.out; obtain ⟨z34_0, z34_1, z34_2, z34_3, z34_4, z34_5, y34_0, y34_1, y34_2, y34_3, y34_4, y34_5⟩ := cz6 BK1099))
   go_ret2
   exact ⟨reT, hbT⟩
 ·rw [if_neg (show ¬ (some q1085).isNone = true by simp)] at H
  try simp only [errW_none, errW_some]
  simp only [Option.some.injEq, Prod.mk.injEq] at H
  obtain ⟨rfl, rfl⟩ := H
  go_enter Try.func51, Try.ntmps51
  go_wp2_with (first | ((with_reducible refine gate_callee (f := 72) rfl ?_); refine goA (some 16) Try.func72 (codec_Decode.calls k a0 a1 t1079 t1080 t1081 t1082 (some q1085) _ A4.out) ?_; intro w35 hb; replace HB := hbS hb; clear hb; (try simp only [errW_none, errW_some])) | ((with_reducible refine gate_dst (N := 8) rfl ?_); refine boxA 8 (#[.int .i64 0, .bool false, .int .i64 0, .int .u64 0]) 103 ?_; intro gb1084 hg w36 BK1084 hb; have GW1084 := geT hg; have GE1084 := GW1084; replace HB := hbS hb; clear hb hg; obtain ⟨z37_0, z37_1, z37_2, z37_3, y37_0, y37_1, y37_2, y37_3⟩ := cz4 BK1084))
  go_ret2
  exact ⟨reT, hbT⟩
end Go.Proofs.Ytnlbfomlfhigcaa.Q
