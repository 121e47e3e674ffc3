/- Walks and plain laws that the claim stands on: each theorem named calls says that a call of a function returns what its f computes; the others are plain laws of these f, and the words that the walks use. -/
import Derived.Test.YtnlbfomlfhigcaaTopRisesV2
import Derived.Test.YtnlbfomlfhigcaaTopRisesV4
import Derived.Test.YtnlbfomlfhigcaaTopRisesV5
import Derived.Test.YtnlbfomlfhigcaaTopRisesV6
namespace Go.Proofs.Ytnlbfomlfhigcaa.Q
open Go.RowKit Go.Proofs.YtnlbfomlfhigcaaW.PrintWords Go.Proofs.YtnlbfomlfhigcaaW.PrintLast Go.Proofs.YtnlbfomlfhigcaaW.PrintMore
attribute [local go_sem] max2_int min2_int max_two min_two max_three min_three max_four min_four
set_option linter.unusedVariables false
set_option linter.unusedSimpArgs false
mutual
def round_Cut.j0 : Nat → Int → Int → Bool → Int → Int → Int → Bool → Option (Int × Int × Option Int)
 | 0, _, _, _, _, _, _, _ => none
 | k + 1, x0, x174000, x174001, x174002, x174003, x174004, x174005 => (twin_Shl.f x174003 x174004 1).bind fun bt183 => ((round_under.f bt183.1 bt183.2.1 (IntKind.u64.wrap (Go.bits .and .i64 x174002 3)) 2 x174005).bind fun bt188 => (if (x174002 / 4) ≥ 0 then ((round_under.f bt188.1 bt188.2.1 0 1 bt188.2.2).bind fun bt191 => (round_Cut.l0 k x0 bt191.2.2 (wrap64 ((x174002 / 4) + 1)) 0 bt191.1 bt191.2.1)) else ((round_under.f bt188.1 bt188.2.1 1 1 bt188.2.2).bind fun bt197 => (round_Cut.l1 k x0 bt197.2.2 (wrap64 (-(x174002 / 4))) 0 bt197.1 bt197.2.1))))
def round_Cut.j3 : Nat → Int → Bool → Int → Int → Option (Int × Int × Option Int)
 | 0, _, _, _, _ => none
 | k + 1, x0, x12, x188000, x188001 => if 0 ≤ (wrap64 (65 - x0)) then ((twin_Shl.f x188000 x188001 (wrap64 (x0 - 1))).bind fun bt203 => (if bt203.2.1 = 0 then ((round_left.f k bt203.1 x12).bind fun t208 => (some (shr .u64 x188000 (wrap64 (65 - x0)), t208, none))) else ((round_left.f k bt203.1 true).bind fun t209 => (some (shr .u64 x188000 (wrap64 (65 - x0)), t209, none))))) else (none)
def round_Cut.l0 : Nat → Int → Bool → Int → Int → Int → Int → Option (Int × Int × Option Int)
 | 0, _, _, _, _, _, _ => none
 | k + 1, x0, x12, x114, x115, x188000, x188001 => if x115 < x114 then ((round_under.f x188000 x188001 1 1 x12).bind fun bt194 => (round_Cut.l0 k x0 bt194.2.2 x114 (wrap64 (x115 + 1)) bt194.1 bt194.2.1)) else (round_Cut.j3 k x0 x12 x188000 x188001)
def round_Cut.l1 : Nat → Int → Bool → Int → Int → Int → Int → Option (Int × Int × Option Int)
 | 0, _, _, _, _, _, _ => none
 | k + 1, x0, x12, x131, x132, x188000, x188001 => if x132 < x131 then ((round_under.f x188000 x188001 0 1 x12).bind fun bt200 => (round_Cut.l1 k x0 bt200.2.2 x131 (wrap64 (x132 + 1)) bt200.1 bt200.2.1)) else (round_Cut.j3 k x0 x12 x188000 x188001)
end
def round_Cut.f (k : Nat) (a0 : Int) (a1_0 : Int) (a1_1 : Bool) (a1_2 : Int) (a1_3 : Int) (a1_4 : Int) (a1_5 : Bool) : Option (Int × Int × Option Int) := (shape_Of.f a0).bind fun bt174 => (if bt174.2.2.2.2.2.isNone = true then ((round_sound.f k a1_0 a1_1 a1_2 a1_3 a1_4 a1_5).bind fun t182 => (if t182 = true then (if a1_0 = 0 then (some (0, 0, none)) else (if a1_0 = 2 then (some (bt174.2.2.2.1, 0, none)) else (if a1_2 ≥ bt174.2.2.2.2.1 then (some (bt174.2.1, 0, none)) else (if a1_2 < (wrap64 (-bt174.2.2.2.2.1)) then (some (bt174.2.2.1, 0, none)) else (if a1_2 = (wrap64 (-bt174.2.2.2.2.1)) then (if a1_3 = 9223372036854775808 then (if a1_4 = 0 then (if a1_5 = true then (round_Cut.j0 k a0 a1_0 a1_1 a1_2 a1_3 a1_4 a1_5) else (some (bt174.2.2.1, 0, none))) else (round_Cut.j0 k a0 a1_0 a1_1 a1_2 a1_3 a1_4 a1_5)) else (round_Cut.j0 k a0 a1_0 a1_1 a1_2 a1_3 a1_4 a1_5)) else (round_Cut.j0 k a0 a1_0 a1_1 a1_2 a1_3 a1_4 a1_5)))))) else (some (0, 0, some 1)))) else (some (0, 0, some (bt174.2.2.2.2.2.getD 0))))
set_option maxHeartbeats 8000000 in
set_option maxRecDepth 100000 in
theorem round_Cut.calls (k : Nat) (a0 : Int) (a1_0 : Int) (a1_1 : Bool) (a1_2 : Int) (a1_3 : Int) (a1_4 : Int) (a1_5 : Bool) (r1 : Int) (r2 : Int) (r3 : Option Int) (w : World) (h : round_Cut.f k a0 a1_0 a1_1 a1_2 a1_3 a1_4 a1_5 = some (r1, r2, r3)) :
  Calls Try.prog 98 #[.int .i64 a0, .agg #[.int .i64 a1_0, .bool a1_1, .int .i64 a1_2, .int .u64 a1_3, .int .u64 a1_4, .bool a1_5]] w fun e w' => e = .returned (.tuple #[.int .u64 r1, .int .i64 r2, errW r3]) ∧ Below w.heap.size w w' := by
 have hu86 := Try.underlying86
 have hu119 := Try.underlying119
 have hu155 := Try.underlying155
 have hu43 := Try.underlying43
 have hu82 := Try.underlying82
 have HB := Aside0.mk (Below.refl w.heap.size w)
 have H := h
 clear h
 unfold round_Cut.f at H
 replace H := Option.bind_eq_some_iff.mp H
 obtain ⟨⟨t174, t175, t176, t177, t178, t179⟩, A30, H⟩ := H
 try dsimp only at H
 have A3 := Aside0.mk A30
 clear A30
 have HC4 := Aside0.mk H
 clear H
 go_enter Try.func98, Try.ntmps98
 go_upto_block 0 with (first | ((with_reducible refine gate_dst (N := 3) rfl ?_); refine boxA 3 (#[.int .i64 a1_0, .bool a1_1, .int .i64 a1_2, .int .u64 a1_3, .int .u64 a1_4, .bool a1_5]) 86 ?_; intro gb173 hg w5 BK173 hb; have GW173 := geT hg; have GE173 := GW173; replace HB := hbS hb; clear hb hg) | ((with_reducible refine gate_callee (f := 87) rfl ?_); refine goA (some 20) Try.func87 (shape_Of.calls a0 t174 t175 t176 t177 t178 t179 _ A3.out) ?_; intro w6 hb; replace BK173 := bkB BK173 hb; replace HB := hbS hb; clear hb; (try simp only [errW_none, errW_some])) | ((with_reducible refine gate_dst (N := 7) rfl ?_); refine boxA 7 (#[.int .i64 0, .int .u64 0, .int .u64 0, .int .u64 0, .int .i64 0]) 119 ?_; intro gb180 hg w7 BK180 hb; have GW180 := geT hg; have GE180 := GW180; obtain ⟨NB173_180, NB180_173⟩ := neT BK173 hg; replace BK173 := bkB BK173 hb; replace HB := hbS hb; clear hb hg; have hnb8 := NB180_173.out; have hnc8 := NB173_180.out; obtain ⟨z9_0, z9_1, z9_2, z9_3, z9_4, y9_0, y9_1, y9_2, y9_3, y9_4⟩ := cz5 BK180))
 (try simp only [Act.put, List.setIfInBounds_toArray, List.set_cons_zero, List.set_cons_succ])
 go_cut [] (fun wc => ∃ (kq : Nat), Aside0 (round_Cut.j0 kq a0 a1_0 a1_1 a1_2 a1_3 a1_4 a1_5 = some (r1, r2, r3)) ∧ Aside0 (kq ≤ k) ∧ Aside0 (wc.heap[gb173]? = some (.cells #[.int .i64 a1_0, .bool a1_1, .int .i64 a1_2, .int .u64 a1_3, .int .u64 a1_4, .bool a1_5] 86 (0, 0))) ∧ Aside0 (wc.heap[gb180]? = some (.cells #[.int .i64 t174, .int .u64 t175, .int .u64 t176, .int .u64 t177, .int .i64 t178] 119 (0, 0))) ∧ Aside0 (Below w.heap.size w wc))
 case first =>
  have H := HC4.out
  clear HC4
  rcases t179 with _ | q181
  ·rw [if_pos (show (none : Option Int).isNone = true by rfl)] at H
   try simp only [errW_none, errW_some]
   replace H := Option.bind_eq_some_iff.mp H
   obtain ⟨t182, A100, H⟩ := H
   try dsimp only at H
   have A10 := Aside0.mk A100
   clear A100
   by_cases c11 : t182 = true
   ·subst c11
    rw [if_pos rfl] at H
    by_cases c12 : a1_0 = 0
    ·rw [if_pos c12] at H
     obtain ⟨c12b0, c12b1⟩ := eqY c12
     clear c12
     (first | rw [c12b0] | (simp only [i64_w, i32_w]; rw [c12b0]) | rw [c12b1] | skip)
     simp only [Option.some.injEq, Prod.mk.injEq] at H
     obtain ⟨rfl, rfl, rfl⟩ := H
     have hnb13 := NB173_180.out
     have hnc13 := NB180_173.out
     obtain ⟨z14_0, z14_1, z14_2, z14_3, z14_4, z14_5, y14_0, y14_1, y14_2, y14_3, y14_4, y14_5⟩ := cz6 BK173
     go_wp2_with (first | ((with_reducible refine gate_callee (f := 100) rfl ?_); refine goA (some 29) Try.func100 (round_sound.calls k a1_0 a1_1 a1_2 a1_3 a1_4 a1_5 true _ A10.out) ?_; intro w15 hb; replace BK173 := bkB BK173 hb; replace BK180 := bkB (o := .cells #[.int .i64 t174, .int .u64 t175, .int .u64 t176, .int .u64 t177, .int .i64 t178] 119 (0, 0)) BK180 hb; replace HB := hbS hb; clear hb; obtain ⟨z16_0, z16_1, z16_2, z16_3, z16_4, z16_5, y16_0, y16_1, y16_2, y16_3, y16_4, y16_5⟩ := cz6 BK173))
     go_ret3
     exact ⟨reT, hbT⟩
    ·rw [if_neg c12] at H
     obtain ⟨c12b0, c12b1⟩ := eqN c12
     (first | rw [c12b0] | (simp only [i64_w, i32_w]; rw [c12b0]) | rw [c12b1] | skip)
     by_cases c17 : a1_0 = 2
     ·rw [if_pos c17] at H
      obtain ⟨c17b0, c17b1⟩ := eqY c17
      clear c17
      simp only [Option.some.injEq, Prod.mk.injEq] at H
      obtain ⟨rfl, rfl, rfl⟩ := H
      have hnb18 := NB173_180.out
      have hnc18 := NB180_173.out
      obtain ⟨z19_0, z19_1, z19_2, z19_3, z19_4, z19_5, y19_0, y19_1, y19_2, y19_3, y19_4, y19_5⟩ := cz6 BK173
      go_wp2_with (first | ((with_reducible refine gate_callee (f := 100) rfl ?_); refine goA (some 29) Try.func100 (round_sound.calls k a1_0 a1_1 a1_2 a1_3 a1_4 a1_5 true _ A10.out) ?_; intro w20 hb; replace BK173 := bkB BK173 hb; replace BK180 := bkB (o := .cells #[.int .i64 t174, .int .u64 t175, .int .u64 t176, .int .u64 t177, .int .i64 t178] 119 (0, 0)) BK180 hb; replace HB := hbS hb; clear hb; obtain ⟨z21_0, z21_1, z21_2, z21_3, z21_4, z21_5, y21_0, y21_1, y21_2, y21_3, y21_4, y21_5⟩ := cz6 BK173; obtain ⟨z22_0, z22_1, z22_2, z22_3, z22_4, y22_0, y22_1, y22_2, y22_3, y22_4⟩ := cz5 BK180))
      go_ret3
      exact ⟨reT, hbT⟩
     ·rw [if_neg c17] at H
      obtain ⟨c17b0, c17b1⟩ := eqN c17
      by_cases c23 : a1_2 ≥ t178
      ·rw [if_pos c23] at H
       have c23b0 : decide (t178 ≤ a1_2) = true := decide_eq_true c23
       clear c23
       simp only [Option.some.injEq, Prod.mk.injEq] at H
       obtain ⟨rfl, rfl, rfl⟩ := H
       have hnb24 := NB173_180.out
       have hnc24 := NB180_173.out
       obtain ⟨z25_0, z25_1, z25_2, z25_3, z25_4, z25_5, y25_0, y25_1, y25_2, y25_3, y25_4, y25_5⟩ := cz6 BK173
       go_wp2_with (first | ((with_reducible refine gate_callee (f := 100) rfl ?_); refine goA (some 29) Try.func100 (round_sound.calls k a1_0 a1_1 a1_2 a1_3 a1_4 a1_5 true _ A10.out) ?_; intro w26 hb; replace BK173 := bkB BK173 hb; replace BK180 := bkB (o := .cells #[.int .i64 t174, .int .u64 t175, .int .u64 t176, .int .u64 t177, .int .i64 t178] 119 (0, 0)) BK180 hb; replace HB := hbS hb; clear hb; obtain ⟨z27_0, z27_1, z27_2, z27_3, z27_4, z27_5, y27_0, y27_1, y27_2, y27_3, y27_4, y27_5⟩ := cz6 BK173; obtain ⟨z28_0, z28_1, z28_2, z28_3, z28_4, y28_0, y28_1, y28_2, y28_3, y28_4⟩ := cz5 BK180))
       go_ret3
       exact ⟨reT, hbT⟩
      ·rw [if_neg c23] at H
       have c23b0 : decide (t178 ≤ a1_2) = false := decide_eq_false c23
       clear c23
       by_cases c29 : a1_2 < (wrap64 (-t178))
       ·rw [if_pos c29] at H
        have c29b0 : decide (a1_2 < (wrap64 (-t178))) = true := decide_eq_true c29
        clear c29
        simp only [Option.some.injEq, Prod.mk.injEq] at H
        obtain ⟨rfl, rfl, rfl⟩ := H
        have hnb30 := NB173_180.out
        have hnc30 := NB180_173.out
        obtain ⟨z31_0, z31_1, z31_2, z31_3, z31_4, z31_5, y31_0, y31_1, y31_2, y31_3, y31_4, y31_5⟩ := cz6 BK173
        go_wp2_with (first | ((with_reducible refine gate_callee (f := 100) rfl ?_); refine goA (some 29) Try.func100 (round_sound.calls k a1_0 a1_1 a1_2 a1_3 a1_4 a1_5 true _ A10.out) ?_; intro w32 hb; replace BK173 := bkB BK173 hb; replace BK180 := bkB (o := .cells #[.int .i64 t174, .int .u64 t175, .int .u64 t176, .int .u64 t177, .int .i64 t178] 119 (0, 0)) BK180 hb; replace HB := hbS hb; clear hb; obtain ⟨z33_0, z33_1, z33_2, z33_3, z33_4, z33_5, y33_0, y33_1, y33_2, y33_3, y33_4, y33_5⟩ := cz6 BK173; obtain ⟨z34_0, z34_1, z34_2, z34_3, z34_4, y34_0, y34_1, y34_2, y34_3, y34_4⟩ := cz5 BK180))
        go_ret3
        exact ⟨reT, hbT⟩
       ·rw [if_neg c29] at H
        have c29b0 : decide (a1_2 < (wrap64 (-t178))) = false := decide_eq_false c29
        clear c29
        by_cases c35 : a1_2 = (wrap64 (-t178))
        ·rw [if_pos c35] at H
         obtain ⟨c35b0, c35b1⟩ := eqY c35
         clear c35
         by_cases c36 : a1_3 = 9223372036854775808
         ·rw [if_pos c36] at H
          obtain ⟨c36b0, c36b1⟩ := eqY c36
          clear c36
          by_cases c37 : a1_4 = 0
          ·rw [if_pos c37] at H
           obtain ⟨c37b0, c37b1⟩ := eqY c37
           clear c37
           by_cases c38 : a1_5 = true
           ·subst c38
            rw [if_pos rfl] at H
            have H' := Aside0.mk H
            clear H
            have hnb39 := NB173_180.out
            have hnc39 := NB180_173.out
            obtain ⟨z40_0, z40_1, z40_2, z40_3, z40_4, z40_5, y40_0, y40_1, y40_2, y40_3, y40_4, y40_5⟩ := cz6 BK173
            go_wp2_with (first | ((with_reducible refine gate_callee (f := 100) rfl ?_); refine goA (some 29) Try.func100 (round_sound.calls k a1_0 a1_1 a1_2 a1_3 a1_4 true true _ A10.out) ?_; intro w41 hb; replace BK173 := bkB BK173 hb; replace BK180 := bkB (o := .cells #[.int .i64 t174, .int .u64 t175, .int .u64 t176, .int .u64 t177, .int .i64 t178] 119 (0, 0)) BK180 hb; replace HB := hbS hb; clear hb; obtain ⟨z42_0, z42_1, z42_2, z42_3, z42_4, z42_5, y42_0, y42_1, y42_2, y42_3, y42_4, y42_5⟩ := cz6 BK173; obtain ⟨z43_0, z43_1, z43_2, z43_3, z43_4, y43_0, y43_1, y43_2, y43_3, y43_4⟩ := cz5 BK180))
            go_meet
            case rel => exact ⟨_, H', leT, ⟨bkT BK173⟩, ⟨bkT BK180⟩, ⟨hbT⟩⟩
           ·replace c38 := Bool.eq_false_iff.mpr c38
            subst c38
            rw [if_neg (show ¬ (false = true) by decide)] at H
            simp only [Option.some.injEq, Prod.mk.injEq] at H
            obtain ⟨rfl, rfl, rfl⟩ := H
            have hnb44 := NB173_180.out
            have hnc44 := NB180_173.out
            obtain ⟨z45_0, z45_1, z45_2, z45_3, z45_4, z45_5, y45_0, y45_1, y45_2, y45_3, y45_4, y45_5⟩ := cz6 BK173
            go_wp2_with (first | ((with_reducible refine gate_callee (f := 100) rfl ?_); refine goA (some 29) Try.func100 (round_sound.calls k a1_0 a1_1 a1_2 a1_3 a1_4 false true _ A10.out) ?_; intro w46 hb; replace BK173 := bkB BK173 hb; replace BK180 := bkB (o := .cells #[.int .i64 t174, .int .u64 t175, .int .u64 t176, .int .u64 t177, .int .i64 t178] 119 (0, 0)) BK180 hb; replace HB := hbS hb; clear hb; obtain ⟨z47_0, z47_1, z47_2, z47_3, z47_4, z47_5, y47_0, y47_1, y47_2, y47_3, y47_4, y47_5⟩ := cz6 BK173; obtain ⟨z48_0, z48_1, z48_2, z48_3, z48_4, y48_0, y48_1, y48_2, y48_3, y48_4⟩ := cz5 BK180))
            go_ret3
            exact ⟨reT, hbT⟩
          ·rw [if_neg c37] at H
           obtain ⟨c37b0, c37b1⟩ := eqN c37
           have H' := Aside0.mk H
           clear H
           have hnb49 := NB173_180.out
           have hnc49 := NB180_173.out
           obtain ⟨z50_0, z50_1, z50_2, z50_3, z50_4, z50_5, y50_0, y50_1, y50_2, y50_3, y50_4, y50_5⟩ := cz6 BK173
           go_wp2_with (first | ((with_reducible refine gate_callee (f := 100) rfl ?_); refine goA (some 29) Try.func100 (round_sound.calls k a1_0 a1_1 a1_2 a1_3 a1_4 a1_5 true _ A10.out) ?_; intro w51 hb; replace BK173 := bkB BK173 hb; replace BK180 := bkB (o := .cells #[.int .i64 t174, .int .u64 t175, .int .u64 t176, .int .u64 t177, .int .i64 t178] 119 (0, 0)) BK180 hb; replace HB := hbS hb; clear hb; obtain ⟨z52_0, z52_1, z52_2, z52_3, z52_4, z52_5, y52_0, y52_1, y52_2, y52_3, y52_4, y52_5⟩ := cz6 BK173; obtain ⟨z53_0, z53_1, z53_2, z53_3, z53_4, y53_0, y53_1, y53_2, y53_3, y53_4⟩ := cz5 BK180))
           go_meet
           case rel => exact ⟨_, H', leT, ⟨bkT BK173⟩, ⟨bkT BK180⟩, ⟨hbT⟩⟩
         ·rw [if_neg c36] at H
          obtain ⟨c36b0, c36b1⟩ := eqN c36
          have H' := Aside0.mk H
          clear H
          have hnb54 := NB173_180.out
          have hnc54 := NB180_173.out
          obtain ⟨z55_0, z55_1, z55_2, z55_3, z55_4, z55_5, y55_0, y55_1, y55_2, y55_3, y55_4, y55_5⟩ := cz6 BK173
          go_wp2_with (first | ((with_reducible refine gate_callee (f := 100) rfl ?_); refine goA (some 29) Try.func100 (round_sound.calls k a1_0 a1_1 a1_2 a1_3 a1_4 a1_5 true _ A10.out) ?_; intro w56 hb; replace BK173 := bkB BK173 hb; replace BK180 := bkB (o := .cells #[.int .i64 t174, .int .u64 t175, .int .u64 t176, .int .u64 t177, .int .i64 t178] 119 (0, 0)) BK180 hb; replace HB := hbS hb; clear hb; obtain ⟨z57_0, z57_1, z57_2, z57_3, z57_4, z57_5, y57_0, y57_1, y57_2, y57_3, y57_4, y57_5⟩ := cz6 BK173; obtain ⟨z58_0, z58_1, z58_2, z58_3, z58_4, y58_0, y58_1, y58_2, y58_3, y58_4⟩ := cz5 BK180))
          go_meet
          case rel => exact ⟨_, H', leT, ⟨bkT BK173⟩, ⟨bkT BK180⟩, ⟨hbT⟩⟩
        ·rw [if_neg c35] at H
         obtain ⟨c35b0, c35b1⟩ := eqN c35
         have H' := Aside0.mk H
         clear H
         have hnb59 := NB173_180.out
         have hnc59 := NB180_173.out
         obtain ⟨z60_0, z60_1, z60_2, z60_3, z60_4, z60_5, y60_0, y60_1, y60_2, y60_3, y60_4, y60_5⟩ := cz6 BK173
         go_wp2_with (first | ((with_reducible refine gate_callee (f := 100) rfl ?_); refine goA (some 29) Try.func100 (round_sound.calls k a1_0 a1_1 a1_2 a1_3 a1_4 a1_5 true _ A10.out) ?_; intro w61 hb; replace BK173 := bkB BK173 hb; replace BK180 := bkB (o := .cells #[.int .i64 t174, .int .u64 t175, .int .u64 t176, .int .u64 t177, .int .i64 t178] 119 (0, 0)) BK180 hb; replace HB := hbS hb; clear hb; obtain ⟨z62_0, z62_1, z62_2, z62_3, z62_4, z62_5, y62_0, y62_1, y62_2, y62_3, y62_4, y62_5⟩ := cz6 BK173; obtain ⟨z63_0, z63_1, z63_2, z63_3, z63_4, y63_0, y63_1, y63_2, y63_3, y63_4⟩ := cz5 BK180))
         go_meet
         case rel => exact ⟨_, H', leT, ⟨bkT BK173⟩, ⟨bkT BK180⟩, ⟨hbT⟩⟩
   ·replace c11 := Bool.eq_false_iff.mpr c11
    subst c11
    rw [if_neg (show ¬ (false = true) by decide)] at H
    simp only [Option.some.injEq, Prod.mk.injEq] at H
    obtain ⟨rfl, rfl, rfl⟩ := H
    have hnb64 := NB173_180.out
    have hnc64 := NB180_173.out
    obtain ⟨z65_0, z65_1, z65_2, z65_3, z65_4, z65_5, y65_0, y65_1, y65_2, y65_3, y65_4, y65_5⟩ := cz6 BK173
    go_wp2_with (first | ((with_reducible refine gate_callee (f := 100) rfl ?_); refine goA (some 29) Try.func100 (round_sound.calls k a1_0 a1_1 a1_2 a1_3 a1_4 a1_5 false _ A10.out) ?_; intro w66 hb; replace BK173 := bkB BK173 hb; replace BK180 := bkB (o := .cells #[.int .i64 t174, .int .u64 t175, .int .u64 t176, .int .u64 t177, .int .i64 t178] 119 (0, 0)) BK180 hb; replace HB := hbS hb; clear hb))
    go_ret3
    exact ⟨reT, hbT⟩
  ·rw [if_neg (show ¬ (some q181).isNone = true by simp)] at H
   try simp only [errW_none, errW_some]
   simp only [Option.some.injEq, Prod.mk.injEq] at H
   obtain ⟨rfl, rfl, rfl⟩ := H
   go_wp2
   go_ret3
   exact ⟨reT, hbT⟩
 case rest =>
  clear HC4
  try clear z9_0 z9_1 z9_2 z9_3 z9_4 y9_0 y9_1 y9_2 y9_3 y9_4
  obtain ⟨kq, HA, HJ3, BK173, BK180, HB⟩ := hcut
  cases kq with
  | zero => exact absurd HA.out (by simp [round_Cut.j0])
  | succ kj3 =>
   have H := HA.out
   clear HA
   simp only [round_Cut.j0] at H
   replace H := Option.bind_eq_some_iff.mp H
   obtain ⟨⟨t183, t184, t185, t186⟩, A670, H⟩ := H
   try dsimp only at H
   have A67 := Aside0.mk A670
   clear A670
   replace H := Option.bind_eq_some_iff.mp H
   obtain ⟨⟨t188, t189, t190⟩, A680, H⟩ := H
   try dsimp only at H
   have A68 := Aside0.mk A680
   clear A680
   have HC69 := Aside0.mk H
   clear H
   have hnb70 := NB173_180.out
   have hnc70 := NB180_173.out
   obtain ⟨z71_0, z71_1, z71_2, z71_3, z71_4, z71_5, y71_0, y71_1, y71_2, y71_3, y71_4, y71_5⟩ := cz6 BK173
   go_upto_if 106 with (first | ((with_reducible refine gate_callee (f := 125) rfl ?_); refine goA (some 86) Try.func125 (twin_Shl.calls a1_3 a1_4 1 t183 t184 t185 t186 _ A67.out) ?_; intro w72 hb; replace BK173 := bkB BK173 hb; replace BK180 := bkB BK180 hb; replace HB := hbS hb; clear hb; (try simp only [errW_none, errW_some])) | ((with_reducible refine gate_dst (N := 9) rfl ?_); refine boxA 9 (#[.int .u64 0, .int .u64 0]) 155 ?_; intro gb187 hg w73 BK187 hb; have GW187 := geT hg; have GE187 := GW187; obtain ⟨NB173_187, NB187_173⟩ := neT BK173 hg; obtain ⟨NB180_187, NB187_180⟩ := neT BK180 hg; replace BK173 := bkB BK173 hb; replace BK180 := bkB BK180 hb; replace HB := hbS hb; clear hb hg; have hnb74 := NB187_173.out; have hnc74 := NB173_187.out; have hnb75 := NB187_180.out; have hnc75 := NB180_187.out; obtain ⟨z76_0, z76_1, y76_0, y76_1⟩ := cz2 BK187; obtain ⟨z77_0, z77_1, z77_2, z77_3, z77_4, z77_5, y77_0, y77_1, y77_2, y77_3, y77_4, y77_5⟩ := cz6 BK173) | ((with_reducible refine gate_callee (f := 126) rfl ?_); refine goA (some 102) Try.func126 (round_under.calls t183 t184 (IntKind.u64.wrap (Go.bits .and .i64 a1_2 3)) 2 a1_5 t188 t189 t190 _ A68.out) ?_; intro w78 hb; replace BK173 := bkB BK173 hb; replace BK180 := bkB BK180 hb; replace BK187 := bkB (o := .cells #[.int .u64 t183, .int .u64 t184] 155 (0, 0)) BK187 hb; replace HB := hbS hb; clear hb; obtain ⟨z79_0, z79_1, y79_0, y79_1⟩ := cz2 BK187))
   (try simp only [Act.put, List.setIfInBounds_toArray, List.set_cons_zero, List.set_cons_succ])
   go_cut [12] (fun v12 wc => ∃ (kq : Nat) (x12_68 : Bool) (x188000_68 : Int) (x188001_68 : Int), v12 = .bool x12_68 ∧ Aside0 (round_Cut.j3 kq a0 x12_68 x188000_68 x188001_68 = some (r1, r2, r3)) ∧ Aside0 (kq ≤ kj3) ∧ Aside0 (wc.heap[gb173]? = some (.cells #[.int .i64 a1_0, .bool a1_1, .int .i64 a1_2, .int .u64 a1_3, .int .u64 a1_4, .bool a1_5] 86 (0, 0))) ∧ Aside0 (wc.heap[gb180]? = some (.cells #[.int .i64 t174, .int .u64 t175, .int .u64 t176, .int .u64 t177, .int .i64 t178] 119 (0, 0))) ∧ Aside0 (wc.heap[gb187]? = some (.cells #[.int .u64 x188000_68, .int .u64 x188001_68] 155 (0, 0))) ∧ Aside0 (Below w.heap.size w wc))
   case first =>
    have H := HC69.out
    clear HC69
    by_cases c80 : (a1_2 / 4) ≥ 0
    ·rw [if_pos c80] at H
     have c80b0 : decide (0 ≤ (a1_2 / 4)) = true := decide_eq_true c80
     clear c80
     (first | rw [c80b0] | (simp only [i64_w, i32_w]; rw [c80b0]) | rw [c80b1] | skip)
     replace H := Option.bind_eq_some_iff.mp H
     obtain ⟨⟨t191, t192, t193⟩, A810, H⟩ := H
     try dsimp only at H
     have A81 := Aside0.mk A810
     clear A810
     have H' := Aside0.mk H
     clear H
     have hnb82 := NB187_173.out
     have hnc82 := NB173_187.out
     have hnb83 := NB187_180.out
     have hnc83 := NB180_187.out
     obtain ⟨z84_0, z84_1, y84_0, y84_1⟩ := cz2 BK187
     go_wp2_with (first | ((with_reducible refine gate_callee (f := 126) rfl ?_); refine goA (some 110) Try.func126 (round_under.calls t188 t189 0 1 t190 t191 t192 t193 _ A81.out) ?_; intro w85 hb; replace BK173 := bkB BK173 hb; replace BK180 := bkB BK180 hb; replace BK187 := bkB (o := .cells #[.int .u64 t188, .int .u64 t189] 155 (0, 0)) BK187 hb; replace HB := hbS hb; clear hb; obtain ⟨z86_0, z86_1, y86_0, y86_1⟩ := cz2 BK187))
     go_loopg [12, 115] kj3 (fun kq v12 v115 w' => ∃ (x12_2 : Bool) (x115_2 : Int) (x188000_2 : Int) (x188001_2 : Int), v12 = .bool x12_2 ∧ v115 = .int .i64 x115_2 ∧ Aside0 (round_Cut.l0 kq a0 x12_2 (wrap64 ((a1_2 / 4) + 1)) x115_2 x188000_2 x188001_2 = some (r1, r2, r3)) ∧ Aside0 (kq ≤ kj3) ∧ Aside0 (w'.heap[gb173]? = some (.cells #[.int .i64 a1_0, .bool a1_1, .int .i64 a1_2, .int .u64 a1_3, .int .u64 a1_4, .bool a1_5] 86 (0, 0))) ∧ Aside0 (w'.heap[gb180]? = some (.cells #[.int .i64 t174, .int .u64 t175, .int .u64 t176, .int .u64 t177, .int .i64 t178] 119 (0, 0))) ∧ Aside0 (w'.heap[gb187]? = some (.cells #[.int .u64 x188000_2, .int .u64 x188001_2] 155 (0, 0))) ∧ Aside0 (Below w.heap.size w w'))
     case atStart => exact ⟨(t193), (0), (t191), (t192), okT, okT, H', ⟨Nat.le_refl _⟩, ⟨bkT BK173⟩, ⟨bkT BK180⟩, ⟨bkT BK187⟩, ⟨hbT⟩⟩
     case round =>
      clear H'
      try clear c80
      try clear c80b0
      try clear z71_0 z71_1 z71_2 z71_3 z71_4 z71_5 y71_0 y71_1 y71_2 y71_3 y71_4 y71_5
      try clear z76_0 z76_1 y76_0 y76_1
      try clear z77_0 z77_1 z77_2 z77_3 z77_4 z77_5 y77_0 y77_1 y77_2 y77_3 y77_4 y77_5
      try clear z79_0 z79_1 y79_0 y79_1
      try clear z84_0 z84_1 y84_0 y84_1
      try clear z86_0 z86_1 y86_0 y86_1
      obtain ⟨x12_2, x115_2, x188000_2, x188001_2, rfl, rfl, HA, HK2, BK173, BK180, BK187, HB⟩ := hrel
      cases gk with
      | zero => exact absurd HA.out (by simp [round_Cut.l0])
      | succ k2 =>
       have H := HA.out
       clear HA
       simp only [round_Cut.l0] at H
       by_cases c87 : x115_2 < (wrap64 ((a1_2 / 4) + 1))
       ·rw [if_pos c87] at H
        have c87b0 : decide (x115_2 < (wrap64 ((a1_2 / 4) + 1))) = true := decide_eq_true c87
        clear c87
        replace H := Option.bind_eq_some_iff.mp H
        obtain ⟨⟨t194, t195, t196⟩, A880, H⟩ := H
        try dsimp only at H
        have A88 := Aside0.mk A880
        clear A880
        have H' := Aside0.mk H
        clear H
        have hnb89 := NB187_173.out
        have hnc89 := NB173_187.out
        have hnb90 := NB187_180.out
        have hnc90 := NB180_187.out
        obtain ⟨z91_0, z91_1, y91_0, y91_1⟩ := cz2 BK187
        go_wp2_with (first | ((with_reducible refine gate_callee (f := 126) rfl ?_); refine goA (some 120) Try.func126 (round_under.calls x188000_2 x188001_2 1 1 x12_2 t194 t195 t196 _ A88.out) ?_; intro w92 hb; replace BK173 := bkB BK173 hb; replace BK180 := bkB BK180 hb; replace BK187 := bkB BK187 hb; replace HB := hbS hb; clear hb; obtain ⟨z93_0, z93_1, y93_0, y93_1⟩ := cz2 BK187))
        go_roundg k2
        case measure => have := HJ3.out; have := HK2.out; omega
        case rel => exact ⟨(t196), (wrap64 (x115_2 + 1)), (t194), (t195), okT, okT, H', ⟨by have := HJ3.out; have := HK2.out; omega⟩, ⟨bkT BK173⟩, ⟨bkT BK180⟩, ⟨bkT BK187⟩, ⟨hbT⟩⟩
       ·rw [if_neg c87] at H
        have c87b0 : decide (x115_2 < (wrap64 ((a1_2 / 4) + 1))) = false := decide_eq_false c87
        clear c87
        have H' := Aside0.mk H
        clear H
        go_wp2
        go_meet
        case rel => exact ⟨_, (x12_2), (x188000_2), (x188001_2), okT, H', ⟨by have := HJ3.out; have := HK2.out; first | omega | exact Nat.le_refl _⟩, ⟨bkT BK173⟩, ⟨bkT BK180⟩, ⟨bkT BK187⟩, ⟨hbT⟩⟩
    ·rw [if_neg c80] at H
     have c80b0 : decide (0 ≤ (a1_2 / 4)) = false := decide_eq_false c80
     clear c80
     (first | rw [c80b0] | (simp only [i64_w, i32_w]; rw [c80b0]) | rw [c80b1] | skip)
     replace H := Option.bind_eq_some_iff.mp H
     obtain ⟨⟨t197, t198, t199⟩, A940, H⟩ := H
     try dsimp only at H
     have A94 := Aside0.mk A940
     clear A940
     have H' := Aside0.mk H
     clear H
     have hnb95 := NB187_173.out
     have hnc95 := NB173_187.out
     have hnb96 := NB187_180.out
     have hnc96 := NB180_187.out
     obtain ⟨z97_0, z97_1, y97_0, y97_1⟩ := cz2 BK187
     go_wp2_with (first | ((with_reducible refine gate_callee (f := 126) rfl ?_); refine goA (some 127) Try.func126 (round_under.calls t188 t189 1 1 t190 t197 t198 t199 _ A94.out) ?_; intro w98 hb; replace BK173 := bkB BK173 hb; replace BK180 := bkB BK180 hb; replace BK187 := bkB (o := .cells #[.int .u64 t188, .int .u64 t189] 155 (0, 0)) BK187 hb; replace HB := hbS hb; clear hb; obtain ⟨z99_0, z99_1, y99_0, y99_1⟩ := cz2 BK187))
     go_loopg [12, 132] kj3 (fun kq v12 v132 w' => ∃ (x12_2 : Bool) (x132_2 : Int) (x188000_2 : Int) (x188001_2 : Int), v12 = .bool x12_2 ∧ v132 = .int .i64 x132_2 ∧ Aside0 (round_Cut.l1 kq a0 x12_2 (wrap64 (-(a1_2 / 4))) x132_2 x188000_2 x188001_2 = some (r1, r2, r3)) ∧ Aside0 (kq ≤ kj3) ∧ Aside0 (w'.heap[gb173]? = some (.cells #[.int .i64 a1_0, .bool a1_1, .int .i64 a1_2, .int .u64 a1_3, .int .u64 a1_4, .bool a1_5] 86 (0, 0))) ∧ Aside0 (w'.heap[gb180]? = some (.cells #[.int .i64 t174, .int .u64 t175, .int .u64 t176, .int .u64 t177, .int .i64 t178] 119 (0, 0))) ∧ Aside0 (w'.heap[gb187]? = some (.cells #[.int .u64 x188000_2, .int .u64 x188001_2] 155 (0, 0))) ∧ Aside0 (Below w.heap.size w w'))
     case atStart => exact ⟨(t199), (0), (t197), (t198), okT, okT, H', ⟨Nat.le_refl _⟩, ⟨bkT BK173⟩, ⟨bkT BK180⟩, ⟨bkT BK187⟩, ⟨hbT⟩⟩
     case round =>
      clear H'
      try clear c80b0
      try clear z97_0 z97_1 y97_0 y97_1
      try clear z99_0 z99_1 y99_0 y99_1
      obtain ⟨x12_2, x132_2, x188000_2, x188001_2, rfl, rfl, HA, HK2, BK173, BK180, BK187, HB⟩ := hrel
      cases gk with
      | zero => exact absurd HA.out (by simp [round_Cut.l1])
      | succ k2 =>
       have H := HA.out
       clear HA
       simp only [round_Cut.l1] at H
       by_cases c100 : x132_2 < (wrap64 (-(a1_2 / 4)))
       ·rw [if_pos c100] at H
        have c100b0 : decide (x132_2 < (wrap64 (-(a1_2 / 4)))) = true := decide_eq_true c100
        clear c100
        replace H := Option.bind_eq_some_iff.mp H
        obtain ⟨⟨t200, t201, t202⟩, A1010, H⟩ := H
        try dsimp only at H
        have A101 := Aside0.mk A1010
        clear A1010
        have H' := Aside0.mk H
        clear H
        have hnb102 := NB187_173.out
        have hnc102 := NB173_187.out
        have hnb103 := NB187_180.out
        have hnc103 := NB180_187.out
        obtain ⟨z104_0, z104_1, y104_0, y104_1⟩ := cz2 BK187
        go_wp2_with (first | ((with_reducible refine gate_callee (f := 126) rfl ?_); refine goA (some 137) Try.func126 (round_under.calls x188000_2 x188001_2 0 1 x12_2 t200 t201 t202 _ A101.out) ?_; intro w105 hb; replace BK173 := bkB BK173 hb; replace BK180 := bkB BK180 hb; replace BK187 := bkB BK187 hb; replace HB := hbS hb; clear hb; obtain ⟨z106_0, z106_1, y106_0, y106_1⟩ := cz2 BK187))
        go_roundg k2
        case measure => have := HJ3.out; have := HK2.out; omega
        case rel => exact ⟨(t202), (wrap64 (x132_2 + 1)), (t200), (t201), okT, okT, H', ⟨by have := HJ3.out; have := HK2.out; omega⟩, ⟨bkT BK173⟩, ⟨bkT BK180⟩, ⟨bkT BK187⟩, ⟨hbT⟩⟩
       ·rw [if_neg c100] at H
        have c100b0 : decide (x132_2 < (wrap64 (-(a1_2 / 4)))) = false := decide_eq_false c100
        clear c100
        have H' := Aside0.mk H
        clear H
        go_wp2
        go_meet
        case rel => exact ⟨_, (x12_2), (x188000_2), (x188001_2), okT, H', ⟨by have := HJ3.out; have := HK2.out; first | omega | exact Nat.le_refl _⟩, ⟨bkT BK173⟩, ⟨bkT BK180⟩, ⟨bkT BK187⟩, ⟨hbT⟩⟩
   case rest =>
    clear HC69
    obtain ⟨kq, x12_68, x188000_68, x188001_68, rfl, HA, HJ68, BK173, BK180, BK187, HB⟩ := hcut
    cases kq with
    | zero => exact absurd HA.out (by simp [round_Cut.j3])
    | succ kj68 =>
     have H := HA.out
     clear HA
     simp only [round_Cut.j3] at H
     obtain ⟨ji107, hji107⟩ : ∃ j_ : Int, (wrap64 (65 - a0)) = j_ := ⟨_, rfl⟩
     replace H : (if 0 ≤ (ji107) then ((twin_Shl.f x188000_68 x188001_68 (wrap64 (a0 - 1))).bind fun bt203 => (if bt203.2.1 = 0 then ((round_left.f kj68 bt203.1 x12_68).bind fun t208 => (some (shr .u64 x188000_68 (ji107), t208, none))) else ((round_left.f kj68 bt203.1 true).bind fun t209 => (some (shr .u64 x188000_68 (ji107), t209, none))))) else (none)) = some (r1, r2, r3) := by first | (rw [hji107] at H; exact H) | (simp only [hji107] at H ⊢; exact H)
     have hji107w : (IntKind.i64.wrap (65 - a0)) = ji107 := (i64_w _).trans hji107
     by_cases c108 : 0 ≤ (ji107)
     ·rw [if_pos c108] at H
      have c108b0 := eq_true c108
      have c108b1 : decide (0 ≤ (ji107)) = true := decide_eq_true c108
      clear c108
      obtain ⟨ji109, hji109⟩ : ∃ j_ : Int, (shr .u64 x188000_68 (ji107)) = j_ := ⟨_, rfl⟩
      replace H : ((twin_Shl.f x188000_68 x188001_68 (wrap64 (a0 - 1))).bind fun bt203 => (if bt203.2.1 = 0 then ((round_left.f kj68 bt203.1 x12_68).bind fun t208 => (some (ji109, t208, none))) else ((round_left.f kj68 bt203.1 true).bind fun t209 => (some (ji109, t209, none))))) = some (r1, r2, r3) := by first | (rw [hji109] at H; exact H) | (simp only [hji109] at H ⊢; exact H)
      have hji109_ : (x188000_68 / 2 ^ min (ji107).toNat 64) = ji109 := hji109
      have hji109z : (ji107) ≤ 64 → (x188000_68 / 2 ^ (ji107).toNat) = ji109 := shr_small hji109
      replace H := Option.bind_eq_some_iff.mp H
      obtain ⟨⟨t203, t204, t205, t206⟩, A1100, H⟩ := H
      try dsimp only at H
      have A110 := Aside0.mk A1100
      clear A1100
      by_cases c111 : t204 = 0
      ·rw [if_pos c111] at H
       obtain ⟨c111b0, c111b1⟩ := eqY c111
       clear c111
       replace H := Option.bind_eq_some_iff.mp H
       obtain ⟨t208, A1120, H⟩ := H
       try dsimp only at H
       have A112 := Aside0.mk A1120
       clear A1120
       simp only [Option.some.injEq, Prod.mk.injEq] at H
       obtain ⟨rfl, rfl, rfl⟩ := H
       have hnb113 := NB187_173.out
       have hnc113 := NB173_187.out
       have hnb114 := NB187_180.out
       have hnc114 := NB180_187.out
       obtain ⟨z115_0, z115_1, y115_0, y115_1⟩ := cz2 BK187
       go_wp2_with (first | ((with_reducible refine gate_callee (f := 125) rfl ?_); refine goA (some 150) Try.func125 (twin_Shl.calls x188000_68 x188001_68 (wrap64 (a0 - 1)) t203 t204 t205 t206 _ A110.out) ?_; intro w116 hb; replace BK173 := bkB BK173 hb; replace BK180 := bkB BK180 hb; replace BK187 := bkB BK187 hb; replace HB := hbS hb; clear hb; (try simp only [errW_none, errW_some])) | ((with_reducible refine gate_dst (N := 15) rfl ?_); refine boxA 15 (#[.int .u64 0, .int .u64 0]) 155 ?_; intro gb207 hg w117 BK207 hb; have GW207 := geT hg; have GE207 := GW207; obtain ⟨NB173_207, NB207_173⟩ := neT BK173 hg; obtain ⟨NB180_207, NB207_180⟩ := neT BK180 hg; obtain ⟨NB187_207, NB207_187⟩ := neT BK187 hg; replace BK173 := bkB BK173 hb; replace BK180 := bkB BK180 hb; replace BK187 := bkB BK187 hb; replace HB := hbS hb; clear hb hg; have hnb118 := NB207_173.out; have hnc118 := NB173_207.out; have hnb119 := NB207_180.out; have hnc119 := NB180_207.out; have hnb120 := NB207_187.out; have hnc120 := NB187_207.out; obtain ⟨z121_0, z121_1, y121_0, y121_1⟩ := cz2 BK207) | ((with_reducible refine gate_callee (f := 127) rfl ?_); refine goesL_ (some 161) rfl rfl Try.func127 (by kernel_rfl) rfl #[.int .u64 t203, .bool x12_68] rfl (by (try simp only [List.map_toArray, List.map_cons, List.map_nil]); first | done | rfl | (simp only [List.length_drop, List.length_take]; rfl)) ?_; (with_reducible refine (round_left.calls kj68 t203 x12_68 t208 _ A112.out).mono ?_); rintro e w' ⟨rfl, ⟨nd, rfl⟩⟩; refine ⟨_, rfl, ?_⟩))
       go_ret3
       exact ⟨by first | rfl | (simp [errW_none, errW_some] <;> rfl) | (simp only [← hji107, ← hji109]; first | rfl | (simp [errW_none, errW_some] <;> rfl)) | (simp [*, errW_none, errW_some] <;> rfl), hbT⟩
      ·rw [if_neg c111] at H
       obtain ⟨c111b0, c111b1⟩ := eqN c111
       replace H := Option.bind_eq_some_iff.mp H
       obtain ⟨t209, A1220, H⟩ := H
       try dsimp only at H
       have A122 := Aside0.mk A1220
       clear A1220
       simp only [Option.some.injEq, Prod.mk.injEq] at H
       obtain ⟨rfl, rfl, rfl⟩ := H
       have hnb123 := NB187_173.out
       have hnc123 := NB173_187.out
       have hnb124 := NB187_180.out
       have hnc124 := NB180_187.out
       obtain ⟨z125_0, z125_1, y125_0, y125_1⟩ := cz2 BK187
       go_wp2_with (first | ((with_reducible refine gate_callee (f := 125) rfl ?_); refine goA (some 150) Try.func125 (twin_Shl.calls x188000_68 x188001_68 (wrap64 (a0 - 1)) t203 t204 t205 t206 _ A110.out) ?_; intro w126 hb; replace BK173 := bkB BK173 hb; replace BK180 := bkB BK180 hb; replace BK187 := bkB BK187 hb; replace HB := hbS hb; clear hb; (try simp only [errW_none, errW_some])) | ((with_reducible refine gate_dst (N := 15) rfl ?_); refine boxA 15 (#[.int .u64 0, .int .u64 0]) 155 ?_; intro gb207 hg w127 BK207 hb; have GW207 := geT hg; have GE207 := GW207; obtain ⟨NB173_207, NB207_173⟩ := neT BK173 hg; obtain ⟨NB180_207, NB207_180⟩ := neT BK180 hg; obtain ⟨NB187_207, NB207_187⟩ := neT BK187 hg; replace BK173 := bkB BK173 hb; replace BK180 := bkB BK180 hb; replace BK187 := bkB BK187 hb; replace HB := hbS hb; clear hb hg; have hnb128 := NB207_173.out; have hnc128 := NB173_207.out; have hnb129 := NB207_180.out; have hnc129 := NB180_207.out; have hnb130 := NB207_187.out; have hnc130 := NB187_207.out; obtain ⟨z131_0, z131_1, y131_0, y131_1⟩ := cz2 BK207) | ((with_reducible refine gate_callee (f := 127) rfl ?_); refine goesL_ (some 161) rfl rfl Try.func127 (by kernel_rfl) rfl #[.int .u64 t203, .bool true] rfl (by (try simp only [List.map_toArray, List.map_cons, List.map_nil]); first | done | rfl | (simp only [List.length_drop, List.length_take]; rfl)) ?_; (with_reducible refine (round_left.calls kj68 t203 true t209 _ A122.out).mono ?_); rintro e w' ⟨rfl, ⟨nd, rfl⟩⟩; refine ⟨_, rfl, ?_⟩))
       go_ret3
       exact ⟨by first | rfl | (simp [errW_none, errW_some] <;> rfl) | (simp only [← hji107, ← hji109]; first | rfl | (simp [errW_none, errW_some] <;> rfl)) | (simp [*, errW_none, errW_some] <;> rfl), hbT⟩
     ·rw [if_neg c108] at H
      exact absurd H (by simp)
end Go.Proofs.Ytnlbfomlfhigcaa.Q
namespace Go.Proofs.Ytnlbfomlfhigcaa.Q
open Go.RowKit Go.Proofs.YtnlbfomlfhigcaaW.PrintWords Go.Proofs.YtnlbfomlfhigcaaW.PrintLast Go.Proofs.YtnlbfomlfhigcaaW.PrintMore
attribute [local go_sem] max2_int min2_int max_two min_two max_three min_three max_four min_four
set_option linter.unusedVariables false
set_option linter.unusedSimpArgs false
def round_Round.f (k : Nat) (a0 : Int) (a1_0 : Int) (a1_1 : Bool) (a1_2 : Int) (a1_3 : Int) (a1_4 : Int) (a1_5 : Bool) : Option (Int × Option Int) := (round_Cut.f k a0 a1_0 a1_1 a1_2 a1_3 a1_4 a1_5).bind fun bt211 => (if bt211.2.2.isNone = true then (if bt211.2.1 = 2 then (if (Go.bits .and .u64 bt211.1 1) = 0 then (if a1_1 = true then ((shape_Fold.f a0 (IntKind.u64.wrap (-bt211.1))).bind fun bt223 => (some (bt223.1, bt223.2))) else ((shape_Fold.f a0 bt211.1).bind fun bt225 => (some (bt225.1, bt225.2)))) else (if a1_1 = true then ((shape_Fold.f a0 (IntKind.u64.wrap (-(IntKind.u64.wrap (bt211.1 + 1))))).bind fun bt227 => (some (bt227.1, bt227.2))) else ((shape_Fold.f a0 (IntKind.u64.wrap (bt211.1 + 1))).bind fun bt229 => (some (bt229.1, bt229.2))))) else (if bt211.2.1 = 3 then (if a1_1 = true then ((shape_Fold.f a0 (IntKind.u64.wrap (-(IntKind.u64.wrap (bt211.1 + 1))))).bind fun bt215 => (some (bt215.1, bt215.2))) else ((shape_Fold.f a0 (IntKind.u64.wrap (bt211.1 + 1))).bind fun bt217 => (some (bt217.1, bt217.2)))) else (if a1_1 = true then ((shape_Fold.f a0 (IntKind.u64.wrap (-bt211.1))).bind fun bt219 => (some (bt219.1, bt219.2))) else ((shape_Fold.f a0 bt211.1).bind fun bt221 => (some (bt221.1, bt221.2)))))) else (some (0, some (bt211.2.2.getD 0))))
set_option maxHeartbeats 8000000 in
set_option maxRecDepth 100000 in
theorem round_Round.calls (k : Nat) (a0 : Int) (a1_0 : Int) (a1_1 : Bool) (a1_2 : Int) (a1_3 : Int) (a1_4 : Int) (a1_5 : Bool) (r1 : Int) (r2 : Option Int) (w : World) (h : round_Round.f k a0 a1_0 a1_1 a1_2 a1_3 a1_4 a1_5 = some (r1, r2)) :
  Calls Try.prog 74 #[.int .i64 a0, .agg #[.int .i64 a1_0, .bool a1_1, .int .i64 a1_2, .int .u64 a1_3, .int .u64 a1_4, .bool a1_5]] w fun e w' => e = .returned (.tuple #[.int .u64 r1, errW r2]) ∧ Below w.heap.size w w' := by
 have hu86 := Try.underlying86
 have hu43 := Try.underlying43
 have hu82 := Try.underlying82
 have HB := Aside0.mk (Below.refl w.heap.size w)
 have H := h
 clear h
 unfold round_Round.f at H
 replace H := Option.bind_eq_some_iff.mp H
 obtain ⟨⟨t211, t212, t213⟩, A30, H⟩ := H
 try dsimp only at H
 have A3 := Aside0.mk A30
 clear A30
 rcases t213 with _ | q214
 ·rw [if_pos (show (none : Option Int).isNone = true by rfl)] at H
  try simp only [errW_none, errW_some]
  by_cases c4 : t212 = 2
  ·rw [if_pos c4] at H
   obtain ⟨c4b0, c4b1⟩ := eqY c4
   clear c4
   by_cases c5 : (Go.bits .and .u64 t211 1) = 0
   ·rw [if_pos c5] at H
    obtain ⟨c5b0, c5b1⟩ := eqY c5
    clear c5
    by_cases c6 : a1_1 = true
    ·subst c6
     rw [if_pos rfl] at H
     replace H := Option.bind_eq_some_iff.mp H
     obtain ⟨⟨t223, t224⟩, A70, H⟩ := H
     try dsimp only at H
     have A7 := Aside0.mk A70
     clear A70
     simp only [Option.some.injEq, Prod.mk.injEq] at H
     obtain ⟨rfl, rfl⟩ := H
     go_enter Try.func74, Try.ntmps74
     go_wp2_with (first | ((with_reducible refine gate_dst (N := 3) rfl ?_); refine boxA 3 (#[.int .i64 a1_0, .bool true, .int .i64 a1_2, .int .u64 a1_3, .int .u64 a1_4, .bool a1_5]) 86 ?_; intro gb210 hg w8 BK210 hb; have GW210 := geT hg; have GE210 := GW210; replace HB := hbS hb; clear hb hg; obtain ⟨z9_0, z9_1, z9_2, z9_3, z9_4, z9_5, y9_0, y9_1, y9_2, y9_3, y9_4, y9_5⟩ := cz6 BK210) | ((with_reducible refine gate_callee (f := 98) rfl ?_); refine goA (some 12) Try.func98 (round_Cut.calls k a0 a1_0 true a1_2 a1_3 a1_4 a1_5 t211 t212 none _ A3.out) ?_; intro w10 hb; replace BK210 := bkB BK210 hb; replace HB := hbS hb; clear hb; (try simp only [errW_none, errW_some]); obtain ⟨z11_0, z11_1, z11_2, z11_3, z11_4, z11_5, y11_0, y11_1, y11_2, y11_3, y11_4, y11_5⟩ := cz6 BK210) | ((with_reducible refine gate_callee (f := 95) rfl ?_); refine goesL_ (some 35) rfl rfl Try.func95 (by kernel_rfl) rfl #[.int .i64 a0, .int .u64 (IntKind.u64.wrap (-t211))] rfl (by (try simp only [List.map_toArray, List.map_cons, List.map_nil]); first | done | rfl | (simp only [List.length_drop, List.length_take]; rfl)) ?_; (with_reducible refine (shape_Fold.calls a0 (IntKind.u64.wrap (-t211)) t223 t224 _ A7.out).mono ?_); rintro e w' ⟨rfl, ⟨nd, rfl⟩⟩; refine ⟨_, rfl, ?_⟩; (try simp only [errW_none, errW_some])))
     go_ret2
     exact ⟨reT, hbT⟩
    ·replace c6 := Bool.eq_false_iff.mpr c6
     subst c6
     rw [if_neg (show ¬ (false = true) by decide)] at H
     replace H := Option.bind_eq_some_iff.mp H
     obtain ⟨⟨t225, t226⟩, A120, H⟩ := H
     try dsimp only at H
     have A12 := Aside0.mk A120
     clear A120
     simp only [Option.some.injEq, Prod.mk.injEq] at H
     obtain ⟨rfl, rfl⟩ := H
     go_enter Try.func74, Try.ntmps74
     go_wp2_with (first | ((with_reducible refine gate_dst (N := 3) rfl ?_); refine boxA 3 (#[.int .i64 a1_0, .bool false, .int .i64 a1_2, .int .u64 a1_3, .int .u64 a1_4, .bool a1_5]) 86 ?_; intro gb210 hg w13 BK210 hb; have GW210 := geT hg; have GE210 := GW210; replace HB := hbS hb; clear hb hg; obtain ⟨z14_0, z14_1, z14_2, z14_3, z14_4, z14_5, y14_0, y14_1, y14_2, y14_3, y14_4, y14_5⟩ := cz6 BK210) | ((with_reducible refine gate_callee (f := 98) rfl ?_); refine goA (some 12) Try.func98 (round_Cut.calls k a0 a1_0 false a1_2 a1_3 a1_4 a1_5 t211 t212 none _ A3.out) ?_; intro w15 hb; replace BK210 := bkB BK210 hb; replace HB := hbS hb; clear hb; (try simp only [errW_none, errW_some]); obtain ⟨z16_0, z16_1, z16_2, z16_3, z16_4, z16_5, y16_0, y16_1, y16_2, y16_3, y16_4, y16_5⟩ := cz6 BK210) | ((with_reducible refine gate_callee (f := 95) rfl ?_); refine goesL_ (some 35) rfl rfl Try.func95 (by kernel_rfl) rfl #[.int .i64 a0, .int .u64 t211] rfl (by (try simp only [List.map_toArray, List.map_cons, List.map_nil]); first | done | rfl | (simp only [List.length_drop, List.length_take]; rfl)) ?_; (with_reducible refine (shape_Fold.calls a0 t211 t225 t226 _ A12.out).mono ?_); rintro e w' ⟨rfl, ⟨nd, rfl⟩⟩; refine ⟨_, rfl, ?_⟩; (try simp only [errW_none, errW_some])))
     go_ret2
     exact ⟨reT, hbT⟩
   ·rw [if_neg c5] at H
    obtain ⟨c5b0, c5b1⟩ := eqN c5
    by_cases c17 : a1_1 = true
    ·subst c17
     rw [if_pos rfl] at H
     replace H := Option.bind_eq_some_iff.mp H
     obtain ⟨⟨t227, t228⟩, A180, H⟩ := H
     try dsimp only at H
     have A18 := Aside0.mk A180
     clear A180
     simp only [Option.some.injEq, Prod.mk.injEq] at H
     obtain ⟨rfl, rfl⟩ := H
     go_enter Try.func74, Try.ntmps74
     go_wp2_with (first | ((with_reducible refine gate_dst (N := 3) rfl ?_); refine boxA 3 (#[.int .i64 a1_0, .bool true, .int .i64 a1_2, .int .u64 a1_3, .int .u64 a1_4, .bool a1_5]) 86 ?_; intro gb210 hg w19 BK210 hb; have GW210 := geT hg; have GE210 := GW210; replace HB := hbS hb; clear hb hg; obtain ⟨z20_0, z20_1, z20_2, z20_3, z20_4, z20_5, y20_0, y20_1, y20_2, y20_3, y20_4, y20_5⟩ := cz6 BK210) | ((with_reducible refine gate_callee (f := 98) rfl ?_); refine goA (some 12) Try.func98 (round_Cut.calls k a0 a1_0 true a1_2 a1_3 a1_4 a1_5 t211 t212 none _ A3.out) ?_; intro w21 hb; replace BK210 := bkB BK210 hb; replace HB := hbS hb; clear hb; (try simp only [errW_none, errW_some]); obtain ⟨z22_0, z22_1, z22_2, z22_3, z22_4, z22_5, y22_0, y22_1, y22_2, y22_3, y22_4, y22_5⟩ := cz6 BK210) | ((with_reducible refine gate_callee (f := 95) rfl ?_); refine goesL_ (some 35) rfl rfl Try.func95 (by kernel_rfl) rfl #[.int .i64 a0, .int .u64 (IntKind.u64.wrap (-(IntKind.u64.wrap (t211 + 1))))] rfl (by (try simp only [List.map_toArray, List.map_cons, List.map_nil]); first | done | rfl | (simp only [List.length_drop, List.length_take]; rfl)) ?_; (with_reducible refine (shape_Fold.calls a0 (IntKind.u64.wrap (-(IntKind.u64.wrap (t211 + 1)))) t227 t228 _ A18.out).mono ?_); rintro e w' ⟨rfl, ⟨nd, rfl⟩⟩; refine ⟨_, rfl, ?_⟩; (try simp only [errW_none, errW_some])))
     go_ret2
     exact ⟨reT, hbT⟩
    ·replace c17 := Bool.eq_false_iff.mpr c17
     subst c17
     rw [if_neg (show ¬ (false = true) by decide)] at H
     replace H := Option.bind_eq_some_iff.mp H
     obtain ⟨⟨t229, t230⟩, A230, H⟩ := H
     try dsimp only at H
     have A23 := Aside0.mk A230
     clear A230
     simp only [Option.some.injEq, Prod.mk.injEq] at H
     obtain ⟨rfl, rfl⟩ := H
     go_enter Try.func74, Try.ntmps74
     go_wp2_with (first | ((with_reducible refine gate_dst (N := 3) rfl ?_); refine boxA 3 (#[.int .i64 a1_0, .bool false, .int .i64 a1_2, .int .u64 a1_3, .int .u64 a1_4, .bool a1_5]) 86 ?_; intro gb210 hg w24 BK210 hb; have GW210 := geT hg; have GE210 := GW210; replace HB := hbS hb; clear hb hg; obtain ⟨z25_0, z25_1, z25_2, z25_3, z25_4, z25_5, y25_0, y25_1, y25_2, y25_3, y25_4, y25_5⟩ := cz6 BK210) | ((with_reducible refine gate_callee (f := 98) rfl ?_); refine goA (some 12) Try.func98 (round_Cut.calls k a0 a1_0 false a1_2 a1_3 a1_4 a1_5 t211 t212 none _ A3.out) ?_; intro w26 hb; replace BK210 := bkB BK210 hb; replace HB := hbS hb; clear hb; (try simp only [errW_none, errW_some]); obtain ⟨z27_0, z27_1, z27_2, z27_3, z27_4, z27_5, y27_0, y27_1, y27_2, y27_3, y27_4, y27_5⟩ := cz6 BK210) | ((with_reducible refine gate_callee (f := 95) rfl ?_); refine goesL_ (some 35) rfl rfl Try.func95 (by kernel_rfl) rfl #[.int .i64 a0, .int .u64 (IntKind.u64.wrap (t211 + 1))] rfl (by (try simp only [List.map_toArray, List.map_cons, List.map_nil]); first | done | rfl | (simp only [List.length_drop, List.length_take]; rfl)) ?_; (with_reducible refine (shape_Fold.calls a0 (IntKind.u64.wrap (t211 + 1)) t229 t230 _ A23.out).mono ?_); rintro e w' ⟨rfl, ⟨nd, rfl⟩⟩; refine ⟨_, rfl, ?_⟩; (try simp only [errW_none, errW_some])))
     go_ret2
     exact ⟨reT, hbT⟩
  ·rw [if_neg c4] at H
   obtain ⟨c4b0, c4b1⟩ := eqN c4
   by_cases c28 : t212 = 3
   ·rw [if_pos c28] at H
    obtain ⟨c28b0, c28b1⟩ := eqY c28
    clear c28
    by_cases c29 : a1_1 = true
    ·subst c29
     rw [if_pos rfl] at H
     replace H := Option.bind_eq_some_iff.mp H
     obtain ⟨⟨t215, t216⟩, A300, H⟩ := H
     try dsimp only at H
     have A30 := Aside0.mk A300
     clear A300
     simp only [Option.some.injEq, Prod.mk.injEq] at H
     obtain ⟨rfl, rfl⟩ := H
     go_enter Try.func74, Try.ntmps74
     go_wp2_with (first | ((with_reducible refine gate_dst (N := 3) rfl ?_); refine boxA 3 (#[.int .i64 a1_0, .bool true, .int .i64 a1_2, .int .u64 a1_3, .int .u64 a1_4, .bool a1_5]) 86 ?_; intro gb210 hg w31 BK210 hb; have GW210 := geT hg; have GE210 := GW210; replace HB := hbS hb; clear hb hg; obtain ⟨z32_0, z32_1, z32_2, z32_3, z32_4, z32_5, y32_0, y32_1, y32_2, y32_3, y32_4, y32_5⟩ := cz6 BK210) | ((with_reducible refine gate_callee (f := 98) rfl ?_); refine goA (some 12) Try.func98 (round_Cut.calls k a0 a1_0 true a1_2 a1_3 a1_4 a1_5 t211 t212 none _ A3.out) ?_; intro w33 hb; replace BK210 := bkB BK210 hb; replace HB := hbS hb; clear hb; (try simp only [errW_none, errW_some]); obtain ⟨z34_0, z34_1, z34_2, z34_3, z34_4, z34_5, y34_0, y34_1, y34_2, y34_3, y34_4, y34_5⟩ := cz6 BK210) | ((with_reducible refine gate_callee (f := 95) rfl ?_); refine goesL_ (some 35) rfl rfl Try.func95 (by kernel_rfl) rfl #[.int .i64 a0, .int .u64 (IntKind.u64.wrap (-(IntKind.u64.wrap (t211 + 1))))] rfl (by (try simp only [List.map_toArray, List.map_cons, List.map_nil]); first | done | rfl | (simp only [List.length_drop, List.length_take]; rfl)) ?_; (with_reducible refine (shape_Fold.calls a0 (IntKind.u64.wrap (-(IntKind.u64.wrap (t211 + 1)))) t215 t216 _ A30.out).mono ?_); rintro e w' ⟨rfl, ⟨nd, rfl⟩⟩; refine ⟨_, rfl, ?_⟩; (try simp only [errW_none, errW_some])))
     go_ret2
     exact ⟨reT, hbT⟩
    ·replace c29 := Bool.eq_false_iff.mpr c29
     subst c29
     rw [if_neg (show ¬ (false = true) by decide)] at H
     replace H := Option.bind_eq_some_iff.mp H
     obtain ⟨⟨t217, t218⟩, A350, H⟩ := H
     try dsimp only at H
     have A35 := Aside0.mk A350
     clear A350
     simp only [Option.some.injEq, Prod.mk.injEq] at H
     obtain ⟨rfl, rfl⟩ := H
     go_enter Try.func74, Try.ntmps74
     go_wp2_with (first | ((with_reducible refine gate_dst (N := 3) rfl ?_); refine boxA 3 (#[.int .i64 a1_0, .bool false, .int .i64 a1_2, .int .u64 a1_3, .int .u64 a1_4, .bool a1_5]) 86 ?_; intro gb210 hg w36 BK210 hb; have GW210 := geT hg; have GE210 := GW210; replace HB := hbS hb; clear hb hg; obtain ⟨z37_0, z37_1, z37_2, z37_3, z37_4, z37_5, y37_0, y37_1, y37_2, y37_3, y37_4, y37_5⟩ := cz6 BK210) | ((with_reducible refine gate_callee (f := 98) rfl ?_); refine goA (some 12) Try.func98 (round_Cut.calls k a0 a1_0 false a1_2 a1_3 a1_4 a1_5 t211 t212 none _ A3.out) ?_; intro w38 hb; replace BK210 := bkB BK210 hb; replace HB := hbS hb; clear hb; (try simp only [errW_none, errW_some]); obtain ⟨z39_0, z39_1, z39_2, z39_3, z39_4, z39_5, y39_0, y39_1, y39_2, y39_3, y39_4, y39_5⟩ := cz6 BK210) | ((with_reducible refine gate_callee (f := 95) rfl ?_); refine goesL_ (some 35) rfl rfl Try.func95 (by kernel_rfl) rfl #[.int .i64 a0, .int .u64 (IntKind.u64.wrap (t211 + 1))] rfl (by (try simp only [List.map_toArray, List.map_cons, List.map_nil]); first | done | rfl | (simp only [List.length_drop, List.length_take]; rfl)) ?_; (with_reducible refine (shape_Fold.calls a0 (IntKind.u64.wrap (t211 + 1)) t217 t218 _ A35.out).mono ?_); rintro e w' ⟨rfl, ⟨nd, rfl⟩⟩; refine ⟨_, rfl, ?_⟩; (try simp only [errW_none, errW_some])))
     go_ret2
     exact ⟨reT, hbT⟩
   ·rw [if_neg c28] at H
    obtain ⟨c28b0, c28b1⟩ := eqN c28
    by_cases c40 : a1_1 = true
    ·subst c40
     rw [if_pos rfl] at H
     replace H := Option.bind_eq_some_iff.mp H
     obtain ⟨⟨t219, t220⟩, A410, H⟩ := H
     try dsimp only at H
     have A41 := Aside0.mk A410
     clear A410
     simp only [Option.some.injEq, Prod.mk.injEq] at H
     obtain ⟨rfl, rfl⟩ := H
     go_enter Try.func74, Try.ntmps74
     go_wp2_with (first | ((with_reducible refine gate_dst (N := 3) rfl ?_); refine boxA 3 (#[.int .i64 a1_0, .bool true, .int .i64 a1_2, .int .u64 a1_3, .int .u64 a1_4, .bool a1_5]) 86 ?_; intro gb210 hg w42 BK210 hb; have GW210 := geT hg; have GE210 := GW210; replace HB := hbS hb; clear hb hg; obtain ⟨z43_0, z43_1, z43_2, z43_3, z43_4, z43_5, y43_0, y43_1, y43_2, y43_3, y43_4, y43_5⟩ := cz6 BK210) | ((with_reducible refine gate_callee (f := 98) rfl ?_); refine goA (some 12) Try.func98 (round_Cut.calls k a0 a1_0 true a1_2 a1_3 a1_4 a1_5 t211 t212 none _ A3.out) ?_; intro w44 hb; replace BK210 := bkB BK210 hb; replace HB := hbS hb; clear hb; (try simp only [errW_none, errW_some]); obtain ⟨z45_0, z45_1, z45_2, z45_3, z45_4, z45_5, y45_0, y45_1, y45_2, y45_3, y45_4, y45_5⟩ := cz6 BK210) | ((with_reducible refine gate_callee (f := 95) rfl ?_); refine goesL_ (some 35) rfl rfl Try.func95 (by kernel_rfl) rfl #[.int .i64 a0, .int .u64 (IntKind.u64.wrap (-t211))] rfl (by (try simp only [List.map_toArray, List.map_cons, List.map_nil]); first | done | rfl | (simp only [List.length_drop, List.length_take]; rfl)) ?_; (with_reducible refine (shape_Fold.calls a0 (IntKind.u64.wrap (-t211)) t219 t220 _ A41.out).mono ?_); rintro e w' ⟨rfl, ⟨nd, rfl⟩⟩; refine ⟨_, rfl, ?_⟩; (try simp only [errW_none, errW_some])))
     go_ret2
     exact ⟨reT, hbT⟩
    ·replace c40 := Bool.eq_false_iff.mpr c40
     subst c40
     rw [if_neg (show ¬ (false = true) by decide)] at H
     replace H := Option.bind_eq_some_iff.mp H
     obtain ⟨⟨t221, t222⟩, A460, H⟩ := H
     try dsimp only at H
     have A46 := Aside0.mk A460
     clear A460
     simp only [Option.some.injEq, Prod.mk.injEq] at H
     obtain ⟨rfl, rfl⟩ := H
     go_enter Try.func74, Try.ntmps74
     go_wp2_with (first | ((with_reducible refine gate_dst (N := 3) rfl ?_); refine boxA 3 (#[.int .i64 a1_0, .bool false, .int .i64 a1_2, .int .u64 a1_3, .int .u64 a1_4, .bool a1_5]) 86 ?_; intro gb210 hg w47 BK210 hb; have GW210 := geT hg; have GE210 := GW210; replace HB := hbS hb; clear hb hg; obtain ⟨z48_0, z48_1, z48_2, z48_3, z48_4, z48_5, y48_0, y48_1, y48_2, y48_3, y48_4, y48_5⟩ := cz6 BK210) | ((with_reducible refine gate_callee (f := 98) rfl ?_); refine goA (some 12) Try.func98 (round_Cut.calls k a0 a1_0 false a1_2 a1_3 a1_4 a1_5 t211 t212 none _ A3.out) ?_; intro w49 hb; replace BK210 := bkB BK210 hb; replace HB := hbS hb; clear hb; (try simp only [errW_none, errW_some]); obtain ⟨z50_0, z50_1, z50_2, z50_3, z50_4, z50_5, y50_0, y50_1, y50_2, y50_3, y50_4, y50_5⟩ := cz6 BK210) | ((with_reducible refine gate_callee (f := 95) rfl ?_); refine goesL_ (some 35) rfl rfl Try.func95 (by kernel_rfl) rfl #[.int .i64 a0, .int .u64 t211] rfl (by (try simp only [List.map_toArray, List.map_cons, List.map_nil]); first | done | rfl | (simp only [List.length_drop, List.length_take]; rfl)) ?_; (with_reducible refine (shape_Fold.calls a0 t211 t221 t222 _ A46.out).mono ?_); rintro e w' ⟨rfl, ⟨nd, rfl⟩⟩; refine ⟨_, rfl, ?_⟩; (try simp only [errW_none, errW_some])))
     go_ret2
     exact ⟨reT, hbT⟩
 ·rw [if_neg (show ¬ (some q214).isNone = true by simp)] at H
  try simp only [errW_none, errW_some]
  simp only [Option.some.injEq, Prod.mk.injEq] at H
  obtain ⟨rfl, rfl⟩ := H
  go_enter Try.func74, Try.ntmps74
  go_wp2_with (first | ((with_reducible refine gate_dst (N := 3) rfl ?_); refine boxA 3 (#[.int .i64 a1_0, .bool a1_1, .int .i64 a1_2, .int .u64 a1_3, .int .u64 a1_4, .bool a1_5]) 86 ?_; intro gb210 hg w51 BK210 hb; have GW210 := geT hg; have GE210 := GW210; replace HB := hbS hb; clear hb hg; obtain ⟨z52_0, z52_1, z52_2, z52_3, z52_4, z52_5, y52_0, y52_1, y52_2, y52_3, y52_4, y52_5⟩ := cz6 BK210) | ((with_reducible refine gate_callee (f := 98) rfl ?_); refine goA (some 12) Try.func98 (round_Cut.calls k a0 a1_0 a1_1 a1_2 a1_3 a1_4 a1_5 t211 t212 (some q214) _ A3.out) ?_; intro w53 hb; replace BK210 := bkB BK210 hb; replace HB := hbS hb; clear hb; (try simp only [errW_none, errW_some])))
  go_ret2
  exact ⟨reT, hbT⟩
end Go.Proofs.Ytnlbfomlfhigcaa.Q
