/- Walks and plain laws that the claim stands on: each theorem named calls says that a call of a function returns what its f computes; the others are plain laws of these f, and the words that the walks use. -/
import Derived.Test.YtnlbfomlfhigcaaGenConvertsV2
import Derived.Test.YtnlbfomlfhigcaaGenConvertsV13
import Derived.Test.YtnlbfomlfhigcaaGenConvertsV14
import Derived.Test.YtnlbfomlfhigcaaGenConvertsV3
namespace Go.Proofs.Ytnlbfomlfhigcaa.Q
open Go.RowKit Go.Proofs.YtnlbfomlfhigcaaW.PrintWords Go.Proofs.YtnlbfomlfhigcaaW.PrintLast Go.Proofs.YtnlbfomlfhigcaaW.PrintMore
attribute [local go_sem] max2_int min2_int max_two min_two max_three min_three max_four min_four
set_option linter.unusedVariables false
set_option linter.unusedSimpArgs false
mutual
def vernierref06_Decodes.j0 : Nat → Int → Int → Int → Int → Bool → Option (Int × Bool × Int × Int × Int)
 | 0, _, _, _, _, _ => none
 | k + 1, x0, x1, x6, x7, x23 => if x23 = true then (some (x6, false, 0, 0, x7)) else ((vernierref06_Split.f k x0 x1).bind fun bt412 => ((vernierref01_Text.f k bt412.2.2.2.2.2.2.2.1 bt412.2.2.2.2.2.2.1).bind fun t423 => (if 1 + t423.size ≤ 9223372036854775807 then (vernierref06_Decodes.l0 k ((⟨#[49]⟩ : ByteArray) ++ t423) x6 bt412.1 (wrap64 ((wrap64 (4 * bt412.2.2.2.1)) + bt412.2.2.2.2.2.1)) 0) else (none))))
def vernierref06_Decodes.l0 : Nat → ByteArray → Int → Bool → Int → Int → Option (Int × Bool × Int × Int × Int)
 | 0, _, _, _, _, _ => none
 | k + 1, x11, x423000, x423001, x423002, x423003 => if (x11.size : Int) < 64 then (if x11.size + 1 ≤ 9223372036854775807 then (vernierref06_Decodes.l0 k (x11 ++ (⟨#[48]⟩ : ByteArray)) x423000 x423001 x423002 x423003) else (none)) else ((vernierref01_Number.f k x11).bind fun t424 => (some (x423000, x423001, x423002, t424, 0)))
end
def vernierref06_Decodes.f (k : Nat) (a0 : Int) (a1 : Int) : Option (Int × Bool × Int × Int × Int) := (vernierref05_Kind.f k a0 a1).bind fun bt410 => (if bt410.2 = 0 then (vernierref06_Decodes.j0 k a0 a1 bt410.1 bt410.2 (bt410.1 != 1)) else (vernierref06_Decodes.j0 k a0 a1 bt410.1 bt410.2 true))
set_option maxHeartbeats 8000000 in
set_option maxRecDepth 100000 in
theorem vernierref06_Decodes.calls (k : Nat) (a0 : Int) (a1 : Int) (r1 : Int) (r2 : Bool) (r3 : Int) (r4 : Int) (r5 : Int) (w : World) (h : vernierref06_Decodes.f k a0 a1 = some (r1, r2, r3, r4, r5)) :
  Calls Try.prog 106 #[.int .i64 a0, .int .u64 a1] w fun e w' => e = .returned (.tuple #[.agg #[.int .i64 r1, .bool r2, .int .i64 r3, .int .u64 r4], .int .i64 r5]) ∧ Below w.heap.size w w' := by
 have hu103 := Try.underlying103
 have hu131 := Try.underlying131
 have HB := Aside0.mk (Below.refl w.heap.size w)
 have H := h
 clear h
 unfold vernierref06_Decodes.f at H
 replace H := Option.bind_eq_some_iff.mp H
 obtain ⟨⟨t410, t411⟩, A30, H⟩ := H
 try dsimp only at H
 have A3 := Aside0.mk A30
 clear A30
 have HC4 := Aside0.mk H
 clear H
 go_enter Try.func106, Try.ntmps106
 go_upto_region 2 with (first | ((with_reducible refine gate_dst (N := 4) rfl ?_); refine boxA 4 (#[.int .i64 0, .bool false, .int .i64 0, .int .u64 0]) 103 ?_; intro gb409 hg w5 BK409 hb; have GW409 := geT hg; have GE409 := GW409; replace HB := hbS hb; clear hb hg) | ((with_reducible refine gate_callee (f := 132) rfl ?_); refine goA (some 15) Try.func132 (vernierref05_Kind.calls k a0 a1 t410 t411 _ A3.out) ?_; intro w6 hb; replace BK409 := bkB BK409 hb; replace HB := hbS hb; clear hb))
 (try simp only [Act.put, List.setIfInBounds_toArray, List.set_cons_zero, List.set_cons_succ])
 go_cut [23] (fun v23 wc => ∃ (kq : Nat) (x23_3 : Bool), v23 = .bool x23_3 ∧ Aside0 (vernierref06_Decodes.j0 kq a0 a1 t410 t411 x23_3 = some (r1, r2, r3, r4, r5)) ∧ Aside0 (kq ≤ k) ∧ Aside0 (wc.heap[gb409]? = some (.cells #[.int .i64 0, .bool false, .int .i64 0, .int .u64 0] 103 (0, 0))) ∧ Aside0 (Below w.heap.size w wc))
 case first =>
  have H := HC4.out
  clear HC4
  by_cases c7 : t411 = 0
  ·rw [if_pos c7] at H
   obtain ⟨c7b0, c7b1⟩ := eqY c7
   clear c7
   (first | rw [c7b0] | (simp only [i64_w, i32_w]; rw [c7b0]) | rw [c7b1] | skip)
   have H' := Aside0.mk H
   clear H
   go_wp2
   go_meet
   case rel => exact ⟨_, ((t410 != 1)), okT, H', leT, ⟨bkT BK409⟩, ⟨hbT⟩⟩
  ·rw [if_neg c7] at H
   obtain ⟨c7b0, c7b1⟩ := eqN c7
   (first | rw [c7b0] | (simp only [i64_w, i32_w]; rw [c7b0]) | rw [c7b1] | skip)
   have H' := Aside0.mk H
   clear H
   go_wp2
   go_meet
   case rel => exact ⟨_, (true), okT, H', leT, ⟨bkT BK409⟩, ⟨hbT⟩⟩
 case rest =>
  clear HC4
  obtain ⟨kq, x23_3, rfl, HA, HJ3, BK409, HB⟩ := hcut
  cases kq with
  | zero => exact absurd HA.out (by simp [vernierref06_Decodes.j0])
  | succ kj3 =>
   have H := HA.out
   clear HA
   simp only [vernierref06_Decodes.j0] at H
   by_cases c8 : x23_3 = true
   ·subst c8
    rw [if_pos rfl] at H
    simp only [Option.some.injEq, Prod.mk.injEq] at H
    obtain ⟨rfl, rfl, rfl, rfl, rfl⟩ := H
    obtain ⟨z9_0, z9_1, z9_2, z9_3, y9_0, y9_1, y9_2, y9_3⟩ := cz4 BK409
    go_wp2
    refine bodyPost_ret (results_ct rfl _ _ gb409 103 #[.int .i64 t410, .bool false, .int .i64 0, .int .u64 0] (0, 0) _ rfl (bkT BK409) Try.underlying103 rfl (by kernel_rfl)) rfl ?_
    exact ⟨reT, hbT⟩
   ·replace c8 := Bool.eq_false_iff.mpr c8
    subst c8
    rw [if_neg (show ¬ (false = true) by decide)] at H
    replace H := Option.bind_eq_some_iff.mp H
    obtain ⟨⟨t412, t413, t414, t415, t416, t417, t418, t419, t420⟩, A100, H⟩ := H
    try dsimp only at H
    have A10 := Aside0.mk A100
    clear A100
    replace H := Option.bind_eq_some_iff.mp H
    obtain ⟨t423, A110, H⟩ := H
    try dsimp only at H
    have A11 := Aside0.mk A110
    clear A110
    by_cases c12 : 1 + t423.size ≤ 9223372036854775807
    ·rw [if_pos c12] at H
     have c12b0 := eq_true c12
     have c12b1 : decide (1 + t423.size ≤ 9223372036854775807) = true := decide_eq_true c12
     try have c12b2 : (9223372036854775807 < 1 + t423.size) = False := eq_false (Nat.not_lt.2 c12)
     have H' := Aside0.mk H
     clear H
     go_wp2_with (first | ((with_reducible refine gate_callee (f := 133) rfl ?_); refine goA (some 30) Try.func133 (vernierref06_Split.calls kj3 a0 a1 t412 t413 t414 t415 t416 t417 t418 t419 t420 _ A10.out) ?_; intro w13 hb; replace BK409 := bkB BK409 hb; replace HB := hbS hb; clear hb) | ((with_reducible refine gate_dst (N := 8) rfl ?_); refine boxA 8 (#[.bool false, .bool false, .int .i64 0, .int .i64 0, .int .i64 0, .int .i64 0, .int .i64 0, .int .u64 0]) 131 ?_; intro gb421 hg w14 BK421 hb; have GW421 := geT hg; have GE421 := GW421; obtain ⟨NB409_421, NB421_409⟩ := neT BK409 hg; replace BK409 := bkB BK409 hb; replace HB := hbS hb; clear hb hg; have hnb15 := NB421_409.out; have hnc15 := NB409_421.out; obtain ⟨z16_0, z16_1, z16_2, z16_3, z16_4, z16_5, z16_6, z16_7, y16_0, y16_1, y16_2, y16_3, y16_4, y16_5, y16_6, y16_7⟩ := cz8 BK421) | ((with_reducible refine gate_dst (N := 10) rfl ?_); refine boxA 10 (#[.int .i64 0, .bool false, .int .i64 0, .int .u64 0]) 103 ?_; intro gb422 hg w17 BK422 hb; have GW422 := geT hg; have GE422 := GW422; obtain ⟨NB409_422, NB422_409⟩ := neT BK409 hg; obtain ⟨NB421_422, NB422_421⟩ := neT (o := .cells #[.bool t412, .bool t413, .int .i64 t414, .int .i64 t415, .int .i64 t416, .int .i64 t417, .int .i64 t418, .int .u64 t419] 131 (0, 0)) BK421 hg; replace BK409 := bkB BK409 hb; replace BK421 := bkB (o := .cells #[.bool t412, .bool t413, .int .i64 t414, .int .i64 t415, .int .i64 t416, .int .i64 t417, .int .i64 t418, .int .u64 t419] 131 (0, 0)) BK421 hb; replace HB := hbS hb; clear hb hg; have hnb18 := NB422_409.out; have hnc18 := NB409_422.out; have hnb19 := NB422_421.out; have hnc19 := NB421_422.out; obtain ⟨z20_0, z20_1, z20_2, z20_3, y20_0, y20_1, y20_2, y20_3⟩ := cz4 BK422; obtain ⟨z21_0, z21_1, z21_2, z21_3, z21_4, z21_5, z21_6, z21_7, y21_0, y21_1, y21_2, y21_3, y21_4, y21_5, y21_6, y21_7⟩ := cz8 BK421) | ((with_reducible refine gate_callee (f := 110) rfl ?_); refine goA (some 47) Try.func110 (vernierref01_Text.calls kj3 t419 t418 t423 _ A11.out) ?_; intro w22 hb; replace BK409 := bkB BK409 hb; replace BK421 := bkB BK421 hb; replace BK422 := bkB (o := .cells #[.int .i64 t410, .bool t412, .int .i64 (wrap64 ((wrap64 (4 * t415)) + t417)), .int .u64 0] 103 (0, 0)) BK422 hb; replace HB := hbS hb; clear hb))
     go_loopg [11] kj3 (fun kq v11 w' => ∃ (x11_2 : ByteArray), v11 = .string x11_2 ∧ Aside0 (vernierref06_Decodes.l0 kq x11_2 t410 t412 (wrap64 ((wrap64 (4 * t415)) + t417)) 0 = some (r1, r2, r3, r4, r5)) ∧ Aside0 (kq ≤ kj3) ∧ Aside0 (w'.heap[gb409]? = some (.cells #[.int .i64 0, .bool false, .int .i64 0, .int .u64 0] 103 (0, 0))) ∧ Aside0 (w'.heap[gb421]? = some (.cells #[.bool t412, .bool t413, .int .i64 t414, .int .i64 t415, .int .i64 t416, .int .i64 t417, .int .i64 t418, .int .u64 t419] 131 (0, 0))) ∧ Aside0 (w'.heap[gb422]? = some (.cells #[.int .i64 t410, .bool t412, .int .i64 (wrap64 ((wrap64 (4 * t415)) + t417)), .int .u64 0] 103 (0, 0))) ∧ Aside0 (Below w.heap.size w w'))
     case atStart => exact ⟨((⟨#[49]⟩ : ByteArray) ++ t423), okT, H', ⟨Nat.le_refl _⟩, ⟨bkT BK409⟩, ⟨bkT BK421⟩, ⟨bkT BK422⟩, ⟨hbT⟩⟩
     case round =>
      clear H'
      try clear c8
      try clear c12
      try clear c12b0
      try clear c12b1
      try clear c12b2
      try clear z16_0 z16_1 z16_2 z16_3 z16_4 z16_5 z16_6 z16_7 y16_0 y16_1 y16_2 y16_3 y16_4 y16_5 y16_6 y16_7
      try clear z20_0 z20_1 z20_2 z20_3 y20_0 y20_1 y20_2 y20_3
      try clear z21_0 z21_1 z21_2 z21_3 z21_4 z21_5 z21_6 z21_7 y21_0 y21_1 y21_2 y21_3 y21_4 y21_5 y21_6 y21_7
      obtain ⟨x11_2, rfl, HA, HK2, BK409, BK421, BK422, HB⟩ := hrel
      cases gk with
      | zero => exact absurd HA.out (by simp [vernierref06_Decodes.l0])
      | succ k2 =>
       have H := HA.out
       clear HA
       simp only [vernierref06_Decodes.l0] at H
       by_cases c23 : (x11_2.size : Int) < 64
       ·rw [if_pos c23] at H
        have c23b0 : decide ((x11_2.size : Int) < 64) = true := decide_eq_true c23
        have c23b1 : decide (x11_2.size < 64) = true := decide_eq_true (by omega)
        clear c23
        by_cases c24 : x11_2.size + 1 ≤ 9223372036854775807
        ·rw [if_pos c24] at H
         have c24b0 := eq_true c24
         have c24b1 : decide (x11_2.size + 1 ≤ 9223372036854775807) = true := decide_eq_true c24
         try have c24b2 : (9223372036854775807 < x11_2.size + 1) = False := eq_false (Nat.not_lt.2 c24)
         have H' := Aside0.mk H
         clear H
         go_wp2
         go_roundg k2
         case measure => have := HJ3.out; have := HK2.out; omega
         case rel => exact ⟨(x11_2 ++ (⟨#[48]⟩ : ByteArray)), okT, H', ⟨by have := HJ3.out; have := HK2.out; omega⟩, ⟨bkT BK409⟩, ⟨bkT BK421⟩, ⟨bkT BK422⟩, ⟨hbT⟩⟩
        ·rw [if_neg c24] at H
         exact absurd H (by simp)
       ·rw [if_neg c23] at H
        have c23b0 : decide ((x11_2.size : Int) < 64) = false := decide_eq_false c23
        have c23b1 : decide (x11_2.size < 64) = false := decide_eq_false (by omega)
        clear c23
        replace H := Option.bind_eq_some_iff.mp H
        obtain ⟨t424, A250, H⟩ := H
        try dsimp only at H
        have A25 := Aside0.mk A250
        clear A250
        simp only [Option.some.injEq, Prod.mk.injEq] at H
        obtain ⟨rfl, rfl, rfl, rfl, rfl⟩ := H
        go_wp2_with (first | ((with_reducible refine gate_callee (f := 109) rfl ?_); refine goesL_ (some 55) rfl rfl Try.func109 (by kernel_rfl) rfl #[.string x11_2] rfl (by (try simp only [List.map_toArray, List.map_cons, List.map_nil]); first | done | rfl | (simp only [List.length_drop, List.length_take]; rfl)) ?_; (with_reducible refine (vernierref01_Number.calls k2 x11_2 t424 _ A25.out).mono ?_); rintro e w' ⟨rfl, ⟨nd, rfl⟩⟩; refine ⟨_, rfl, ?_⟩; (try (rw [drewN_self wr]; generalize hq_ : World.drewN wr _ = wr; have n0_ : Aside0 (wr.heap[gb409]? = some (.cells #[.int .i64 0, .bool false, .int .i64 0, .int .u64 0] 103 (0, 0))) := ⟨by rw [← hq_]; exact (bkT BK409)⟩; have n1_ : Aside0 (wr.heap[gb421]? = some (.cells #[.bool t412, .bool t413, .int .i64 t414, .int .i64 t415, .int .i64 t416, .int .i64 t417, .int .i64 t418, .int .u64 t419] 131 (0, 0))) := ⟨by rw [← hq_]; exact (bkT BK421)⟩; have n2_ : Aside0 (wr.heap[gb422]? = some (.cells #[.int .i64 t410, .bool t412, .int .i64 (wrap64 ((wrap64 (4 * t415)) + t417)), .int .u64 0] 103 (0, 0))) := ⟨by rw [← hq_]; exact (bkT BK422)⟩; have n3_ : Aside0 (Below w.heap.size w wr) := ⟨by rw [← hq_]; exact hbT⟩; clear BK409 BK421 BK422 HB hq_; have BK409 := n0_; have BK421 := n1_; have BK422 := n2_; have HB := n3_; clear n0_ n1_ n2_ n3_)); have hnb26 := NB422_409.out; have hnc26 := NB409_422.out; have hnb27 := NB422_421.out; have hnc27 := NB421_422.out; obtain ⟨z28_0, z28_1, z28_2, z28_3, y28_0, y28_1, y28_2, y28_3⟩ := cz4 BK422; have hnb29 := NB409_421.out; have hnc29 := NB421_409.out; obtain ⟨z30_0, z30_1, z30_2, z30_3, y30_0, y30_1, y30_2, y30_3⟩ := cz4 BK409))
        refine bodyPost_ret (results_ct rfl _ _ gb409 103 #[.int .i64 t410, .bool t412, .int .i64 (wrap64 ((wrap64 (4 * t415)) + t417)), .int .u64 t424] (0, 0) _ rfl (bkT BK409) Try.underlying103 rfl (by kernel_rfl)) rfl ?_
        exact ⟨reT, hbT⟩
    ·rw [if_neg c12] at H
     exact absurd H (by simp)
end Go.Proofs.Ytnlbfomlfhigcaa.Q
namespace Go.Proofs.Ytnlbfomlfhigcaa.Q
open Go.RowKit Go.Proofs.YtnlbfomlfhigcaaW.PrintWords Go.Proofs.YtnlbfomlfhigcaaW.PrintLast Go.Proofs.YtnlbfomlfhigcaaW.PrintMore
attribute [local go_sem] max2_int min2_int max_two min_two max_three min_three max_four min_four
set_option linter.unusedVariables false
set_option linter.unusedSimpArgs false
def vernierref06_Decode.f (k : Nat) (a0 : Int) (a1 : Int) : Option (Int × Bool × Int × Int) := (vernierref06_Decodes.f k a0 a1).bind fun bt426 => (some (bt426.1, bt426.2.1, bt426.2.2.1, bt426.2.2.2.1))
set_option maxHeartbeats 8000000 in
set_option maxRecDepth 100000 in
theorem vernierref06_Decode.calls (k : Nat) (a0 : Int) (a1 : Int) (r1 : Int) (r2 : Bool) (r3 : Int) (r4 : Int) (w : World) (h : vernierref06_Decode.f k a0 a1 = some (r1, r2, r3, r4)) :
  Calls Try.prog 84 #[.int .i64 a0, .int .u64 a1] w fun e w' => e = .returned (.agg #[.int .i64 r1, .bool r2, .int .i64 r3, .int .u64 r4]) ∧ Below w.heap.size w w' := by
 have hu103 := Try.underlying103
 have HB := Aside0.mk (Below.refl w.heap.size w)
 have H := h
 clear h
 unfold vernierref06_Decode.f at H
 replace H := Option.bind_eq_some_iff.mp H
 obtain ⟨⟨t426, t427, t428, t429, t430⟩, A30, H⟩ := H
 try dsimp only at H
 have A3 := Aside0.mk A30
 clear A30
 simp only [Option.some.injEq, Prod.mk.injEq] at H
 obtain ⟨rfl, rfl, rfl, rfl⟩ := H
 go_enter Try.func84, Try.ntmps84
 go_wp2_with (first | ((with_reducible refine gate_dst (N := 4) rfl ?_); refine boxA 4 (#[.int .i64 0, .bool false, .int .i64 0, .int .u64 0]) 103 ?_; intro gb425 hg w4 BK425 hb; have GW425 := geT hg; have GE425 := GW425; replace HB := hbS hb; clear hb hg) | ((with_reducible refine gate_callee (f := 106) rfl ?_); refine goA (some 10) Try.func106 (vernierref06_Decodes.calls k a0 a1 t426 t427 t428 t429 t430 _ A3.out) ?_; intro w5 hb; replace BK425 := bkB BK425 hb; replace HB := hbS hb; clear hb) | ((with_reducible refine gate_dst (N := 5) rfl ?_); refine boxA 5 (#[.int .i64 0, .bool false, .int .i64 0, .int .u64 0]) 103 ?_; intro gb431 hg w6 BK431 hb; have GW431 := geT hg; have GE431 := GW431; obtain ⟨NB425_431, NB431_425⟩ := neT BK425 hg; replace BK425 := bkB BK425 hb; replace HB := hbS hb; clear hb hg; have hnb7 := NB431_425.out; have hnc7 := NB425_431.out; obtain ⟨z8_0, z8_1, z8_2, z8_3, y8_0, y8_1, y8_2, y8_3⟩ := cz4 BK431; obtain ⟨z9_0, z9_1, z9_2, z9_3, y9_0, y9_1, y9_2, y9_3⟩ := cz4 BK425))
 refine bodyPost_ret (results_cell_row rfl _ _ gb425 103 #[.int .i64 t426, .bool t427, .int .i64 t428, .int .u64 t429] (0, 0) _ rfl (bkT BK425) Try.underlying103 rfl (by kernel_rfl)) rfl ?_
 exact ⟨reT, hbT⟩
end Go.Proofs.Ytnlbfomlfhigcaa.Q
namespace Go.Proofs.Ytnlbfomlfhigcaa.Q
open Go.RowKit Go.Proofs.YtnlbfomlfhigcaaW.PrintWords Go.Proofs.YtnlbfomlfhigcaaW.PrintLast Go.Proofs.YtnlbfomlfhigcaaW.PrintMore
attribute [local go_sem] max2_int min2_int max_two min_two max_three min_three max_four min_four
set_option linter.unusedVariables false
set_option linter.unusedSimpArgs false
attribute [local go_sem high] eqA86
def vernierref07_Sound.f (a0_0 : Int) (a0_1 : Bool) (a0_2 : Int) (a0_3 : Int) (a0_4 : Int) (a0_5 : Bool) : Option (Bool) := if a0_0 = 0 then (some (!a0_1 && (a0_2 == 0 && (a0_3 == 0 && (a0_4 == 0 && (!a0_5)))))) else (if a0_0 = 2 then (some (!a0_1 && (a0_2 == 0 && (a0_3 == 0 && (a0_4 == 0 && (!a0_5)))))) else (if a0_0 = 1 then (if a0_3 ≥ 9223372036854775808 then (if a0_2 ≥ (-1099511627776) then (some (decide (a0_2 ≤ 1099511627776))) else (some false)) else (some false)) else (some false)))
set_option maxHeartbeats 8000000 in
set_option maxRecDepth 100000 in
theorem vernierref07_Sound.calls (a0_0 : Int) (a0_1 : Bool) (a0_2 : Int) (a0_3 : Int) (a0_4 : Int) (a0_5 : Bool) (r : Bool) (w : World) (h : vernierref07_Sound.f a0_0 a0_1 a0_2 a0_3 a0_4 a0_5 = some r) :
  Calls Try.prog 92 #[.agg #[.int .i64 a0_0, .bool a0_1, .int .i64 a0_2, .int .u64 a0_3, .int .u64 a0_4, .bool a0_5]] w fun e w' => e = .returned (.bool r) ∧ Below w.heap.size w w' := by
 have hu86 := Try.underlying86
 have HB := Aside0.mk (Below.refl w.heap.size w)
 have H := h
 clear h
 unfold vernierref07_Sound.f at H
 by_cases c2 : a0_0 = 0
 ·rw [if_pos c2] at H
  obtain ⟨c2b0, c2b1⟩ := eqY c2
  clear c2
  obtain rfl := Option.some.inj H
  go_enter Try.func92, Try.ntmps92
  go_wp2_with (first | ((with_reducible refine gate_dst (N := 1) rfl ?_); refine boxA 1 (#[.int .i64 a0_0, .bool a0_1, .int .i64 a0_2, .int .u64 a0_3, .int .u64 a0_4, .bool a0_5]) 86 ?_; intro gb432 hg w3 BK432 hb; have GW432 := geT hg; have GE432 := GW432; replace HB := hbS hb; clear hb hg; obtain ⟨z4_0, z4_1, z4_2, z4_3, z4_4, z4_5, y4_0, y4_1, y4_2, y4_3, y4_4, y4_5⟩ := cz6 BK432))
  go_ret
  exact ⟨reT, hbT⟩
 ·rw [if_neg c2] at H
  obtain ⟨c2b0, c2b1⟩ := eqN c2
  by_cases c5 : a0_0 = 2
  ·rw [if_pos c5] at H
   obtain ⟨c5b0, c5b1⟩ := eqY c5
   clear c5
   obtain rfl := Option.some.inj H
   go_enter Try.func92, Try.ntmps92
   go_wp2_with (first | ((with_reducible refine gate_dst (N := 1) rfl ?_); refine boxA 1 (#[.int .i64 a0_0, .bool a0_1, .int .i64 a0_2, .int .u64 a0_3, .int .u64 a0_4, .bool a0_5]) 86 ?_; intro gb432 hg w6 BK432 hb; have GW432 := geT hg; have GE432 := GW432; replace HB := hbS hb; clear hb hg; obtain ⟨z7_0, z7_1, z7_2, z7_3, z7_4, z7_5, y7_0, y7_1, y7_2, y7_3, y7_4, y7_5⟩ := cz6 BK432))
   go_ret
   exact ⟨reT, hbT⟩
  ·rw [if_neg c5] at H
   obtain ⟨c5b0, c5b1⟩ := eqN c5
   by_cases c8 : a0_0 = 1
   ·rw [if_pos c8] at H
    obtain ⟨c8b0, c8b1⟩ := eqY c8
    clear c8
    by_cases c9 : a0_3 ≥ 9223372036854775808
    ·rw [if_pos c9] at H
     have c9b0 : decide (9223372036854775808 ≤ a0_3) = true := decide_eq_true c9
     clear c9
     by_cases c10 : a0_2 ≥ (-1099511627776)
     ·rw [if_pos c10] at H
      have c10b0 : decide ((-1099511627776) ≤ a0_2) = true := decide_eq_true c10
      clear c10
      obtain rfl := Option.some.inj H
      go_enter Try.func92, Try.ntmps92
      go_wp2_with (first | ((with_reducible refine gate_dst (N := 1) rfl ?_); refine boxA 1 (#[.int .i64 a0_0, .bool a0_1, .int .i64 a0_2, .int .u64 a0_3, .int .u64 a0_4, .bool a0_5]) 86 ?_; intro gb432 hg w11 BK432 hb; have GW432 := geT hg; have GE432 := GW432; replace HB := hbS hb; clear hb hg; obtain ⟨z12_0, z12_1, z12_2, z12_3, z12_4, z12_5, y12_0, y12_1, y12_2, y12_3, y12_4, y12_5⟩ := cz6 BK432))
      go_ret
      exact ⟨reT, hbT⟩
     ·rw [if_neg c10] at H
      have c10b0 : decide ((-1099511627776) ≤ a0_2) = false := decide_eq_false c10
      clear c10
      obtain rfl := Option.some.inj H
      go_enter Try.func92, Try.ntmps92
      go_wp2_with (first | ((with_reducible refine gate_dst (N := 1) rfl ?_); refine boxA 1 (#[.int .i64 a0_0, .bool a0_1, .int .i64 a0_2, .int .u64 a0_3, .int .u64 a0_4, .bool a0_5]) 86 ?_; intro gb432 hg w13 BK432 hb; have GW432 := geT hg; have GE432 := GW432; replace HB := hbS hb; clear hb hg; obtain ⟨z14_0, z14_1, z14_2, z14_3, z14_4, z14_5, y14_0, y14_1, y14_2, y14_3, y14_4, y14_5⟩ := cz6 BK432))
      go_ret
      exact ⟨reT, hbT⟩
    ·rw [if_neg c9] at H
     have c9b0 : decide (9223372036854775808 ≤ a0_3) = false := decide_eq_false c9
     clear c9
     obtain rfl := Option.some.inj H
     go_enter Try.func92, Try.ntmps92
     go_wp2_with (first | ((with_reducible refine gate_dst (N := 1) rfl ?_); refine boxA 1 (#[.int .i64 a0_0, .bool a0_1, .int .i64 a0_2, .int .u64 a0_3, .int .u64 a0_4, .bool a0_5]) 86 ?_; intro gb432 hg w15 BK432 hb; have GW432 := geT hg; have GE432 := GW432; replace HB := hbS hb; clear hb hg; obtain ⟨z16_0, z16_1, z16_2, z16_3, z16_4, z16_5, y16_0, y16_1, y16_2, y16_3, y16_4, y16_5⟩ := cz6 BK432))
     go_ret
     exact ⟨reT, hbT⟩
   ·rw [if_neg c8] at H
    obtain ⟨c8b0, c8b1⟩ := eqN c8
    obtain rfl := Option.some.inj H
    go_enter Try.func92, Try.ntmps92
    go_wp2_with (first | ((with_reducible refine gate_dst (N := 1) rfl ?_); refine boxA 1 (#[.int .i64 a0_0, .bool a0_1, .int .i64 a0_2, .int .u64 a0_3, .int .u64 a0_4, .bool a0_5]) 86 ?_; intro gb432 hg w17 BK432 hb; have GW432 := geT hg; have GE432 := GW432; replace HB := hbS hb; clear hb hg; obtain ⟨z18_0, z18_1, z18_2, z18_3, z18_4, z18_5, y18_0, y18_1, y18_2, y18_3, y18_4, y18_5⟩ := cz6 BK432))
    go_ret
    exact ⟨reT, hbT⟩
end Go.Proofs.Ytnlbfomlfhigcaa.Q
namespace Go.Proofs.Ytnlbfomlfhigcaa.Q
open Go.RowKit Go.Proofs.YtnlbfomlfhigcaaW.PrintWords Go.Proofs.YtnlbfomlfhigcaaW.PrintLast Go.Proofs.YtnlbfomlfhigcaaW.PrintMore
attribute [local go_sem] max2_int min2_int max_two min_two max_three min_three max_four min_four
set_option linter.unusedVariables false
set_option linter.unusedSimpArgs false
def vernierref07_some.l0 : Nat → ByteArray → Int → Option (Bool)
 | 0, _, _ => none
 | k + 1, x0, x3 => if x3 < (x0.size : Int) then (if 0 ≤ x3 then (if (bt x0 x3) = 49 then (some true) else (vernierref07_some.l0 k x0 (wrap64 (x3 + 1)))) else (none)) else (some false)
def vernierref07_some.f (k : Nat) (a0 : ByteArray) : Option (Bool) := vernierref07_some.l0 k a0 0
set_option maxHeartbeats 8000000 in
set_option maxRecDepth 100000 in
theorem vernierref07_some.calls (k : Nat) (a0 : ByteArray) (r : Bool) (w : World) (h : vernierref07_some.f k a0 = some r) :
  Calls Try.prog 160 #[.string a0] w fun e w' => e = .returned (.bool r) ∧ Drawn0 w w' := by
 have H := h
 clear h
 unfold vernierref07_some.f at H
 have H' := Aside0.mk H
 clear H
 go_enter Try.func160, Try.ntmps160
 go_wp2
 go_loopg [3] k (fun kq v3 w' => ∃ (x3_1 : Int), v3 = .int .i64 x3_1 ∧ Aside0 (vernierref07_some.l0 kq a0 x3_1 = some r) ∧ Aside0 (kq ≤ k) ∧ Drawn0 w w')
 case atStart => exact ⟨(0), okT, H', ⟨Nat.le_refl _⟩, by repeat (first | exact Drawn0.refl _ | apply Drawn0.step)⟩
 case round =>
  clear H'
  obtain ⟨x3_1, rfl, HA, HK1, ⟨m1, rfl⟩⟩ := hrel
  cases gk with
  | zero => exact absurd HA.out (by simp [vernierref07_some.l0])
  | succ k1 =>
   have H := HA.out
   clear HA
   simp only [vernierref07_some.l0] at H
   by_cases c2 : x3_1 < (a0.size : Int)
   ·rw [if_pos c2] at H
    have c2b0 : decide (x3_1 < (a0.size : Int)) = true := decide_eq_true c2
    clear c2
    by_cases c3 : 0 ≤ x3_1
    ·rw [if_pos c3] at H
     have c3b0 : decide (0 ≤ x3_1) = true := decide_eq_true c3
     clear c3
     by_cases c5 : (bt a0 x3_1) = 49
     ·rw [if_pos c5] at H
      obtain ⟨c5b0, c5b1⟩ := eqY c5
      clear c5
      obtain rfl := Option.some.inj H
      have p4 : 0 ≤ (x3_1 : Int) := of_decide_eq_true (by first | (with_reducible assumption) | assumption)
      have q4 : x3_1 < (a0.size : Int) := of_decide_eq_true (by first | (with_reducible assumption) | assumption)
      have hx4 := bt_at a0 x3_1
      replace p4 := eq_true p4
      replace q4 := eq_true q4
      go_wp2
      go_ret
      exact ⟨okT, by repeat (first | exact Drawn0.refl _ | apply Drawn0.step)⟩
     ·rw [if_neg c5] at H
      obtain ⟨c5b0, c5b1⟩ := eqN c5
      have H' := Aside0.mk H
      clear H
      have p4 : 0 ≤ (x3_1 : Int) := of_decide_eq_true (by first | (with_reducible assumption) | assumption)
      have q4 : x3_1 < (a0.size : Int) := of_decide_eq_true (by first | (with_reducible assumption) | assumption)
      have hx4 := bt_at a0 x3_1
      replace p4 := eq_true p4
      replace q4 := eq_true q4
      go_wp2
      go_roundg k1
      case measure => have := HK1.out; omega
      case rel => exact ⟨(wrap64 (x3_1 + 1)), okT, H', ⟨by have := HK1.out; omega⟩, by repeat (first | exact Drawn0.refl _ | apply Drawn0.step)⟩
    ·rw [if_neg c3] at H
     exact absurd H (by simp)
   ·rw [if_neg c2] at H
    have c2b0 : decide (x3_1 < (a0.size : Int)) = false := decide_eq_false c2
    clear c2
    obtain rfl := Option.some.inj H
    go_wp2
    go_ret
    exact ⟨okT, by repeat (first | exact Drawn0.refl _ | apply Drawn0.step)⟩
end Go.Proofs.Ytnlbfomlfhigcaa.Q
namespace Go.Proofs.Ytnlbfomlfhigcaa.Q
open Go.RowKit Go.Proofs.YtnlbfomlfhigcaaW.PrintWords Go.Proofs.YtnlbfomlfhigcaaW.PrintLast Go.Proofs.YtnlbfomlfhigcaaW.PrintMore
attribute [local go_sem] max2_int min2_int max_two min_two max_three min_three max_four min_four
set_option linter.unusedVariables false
set_option linter.unusedSimpArgs false
def vernierref06_regime.f (a0 : Int) : Option (Int) := if (wrap64 (4 * (wrap64 (Int.tdiv a0 4)))) > a0 then (some (wrap64 ((wrap64 (Int.tdiv a0 4)) - 1))) else (some (wrap64 (Int.tdiv a0 4)))
set_option maxHeartbeats 8000000 in
set_option maxRecDepth 100000 in
theorem vernierref06_regime.calls (a0 : Int) (r : Int) (w : World) (h : vernierref06_regime.f a0 = some r) :
  Calls Try.prog 167 #[.int .i64 a0] w fun e w' => e = .returned (.int .i64 r) ∧ Drawn0 w w' := by
 have H := h
 clear h
 unfold vernierref06_regime.f at H
 by_cases c2 : (wrap64 (4 * (wrap64 (Int.tdiv a0 4)))) > a0
 ·rw [if_pos c2] at H
  have c2b0 : decide (a0 < (wrap64 (4 * (wrap64 (Int.tdiv a0 4))))) = true := decide_eq_true c2
  clear c2
  obtain rfl := Option.some.inj H
  go_enter Try.func167, Try.ntmps167
  go_wp2
  go_ret
  exact ⟨okT, by repeat (first | exact Drawn0.refl _ | apply Drawn0.step)⟩
 ·rw [if_neg c2] at H
  have c2b0 : decide (a0 < (wrap64 (4 * (wrap64 (Int.tdiv a0 4))))) = false := decide_eq_false c2
  clear c2
  obtain rfl := Option.some.inj H
  go_enter Try.func167, Try.ntmps167
  go_wp2
  go_ret
  exact ⟨okT, by repeat (first | exact Drawn0.refl _ | apply Drawn0.step)⟩
end Go.Proofs.Ytnlbfomlfhigcaa.Q
namespace Go.Proofs.Ytnlbfomlfhigcaa.Q
open Go.RowKit Go.Proofs.YtnlbfomlfhigcaaW.PrintWords Go.Proofs.YtnlbfomlfhigcaaW.PrintLast Go.Proofs.YtnlbfomlfhigcaaW.PrintMore
attribute [local go_sem] max2_int min2_int max_two min_two max_three min_three max_four min_four
set_option linter.unusedVariables false
set_option linter.unusedSimpArgs false
mutual
def vernierref06_Head.l0 : Nat → Int → Int → List Int → Int → Option (ByteArray)
 | 0, _, _, _, _ => none
 | k + 1, x0, x3, x4, x5 => if x5 ≤ x3 then (if x4.length < 140737488355328 then (vernierref06_Head.l0 k x0 x3 (x4 ++ [49]) (wrap64 (x5 + 1))) else (none)) else (vernierref06_Head.l1 k x0 x3 x4 0)
def vernierref06_Head.l1 : Nat → Int → Int → List Int → Int → Option (ByteArray)
 | 0, _, _, _, _ => none
 | k + 1, x0, x3, x4, x6 => if x6 > x3 then (if x4.length < 140737488355328 then (vernierref06_Head.l1 k x0 x3 (x4 ++ [48]) (wrap64 (x6 - 1))) else (none)) else (if x3 ≥ 0 then (if x4.length < 140737488355328 then ((some (x4 ++ [48] : List Int)).bind fun y440 => ((vernierref01_Text.f k (IntKind.u64.wrap (wrap64 (x0 - (wrap64 (4 * x3))))) 2).bind fun t443 => (if (strOfNums y440).size + t443.size ≤ 9223372036854775807 then (some ((strOfNums y440) ++ t443)) else (none)))) else (none)) else (if x4.length < 140737488355328 then ((some (x4 ++ [49] : List Int)).bind fun y444 => ((vernierref01_Text.f k (IntKind.u64.wrap (wrap64 (x0 - (wrap64 (4 * x3))))) 2).bind fun t447 => (if (strOfNums y444).size + t447.size ≤ 9223372036854775807 then (some ((strOfNums y444) ++ t447)) else (none)))) else (none)))
end
def vernierref06_Head.f (k : Nat) (a0 : Int) : Option (ByteArray) := (vernierref06_regime.f a0).bind fun t433 => (vernierref06_Head.l0 k a0 t433 ([] : List Int) 0)
def vernierref06_Head.T14 : Bool × List (List Nat × List Nat) := (true, [([], []), ([0], [0]), ([], []), ([], []), ([3], [3]), ([2, 4], [2, 4]), ([5], [5]), ([6], [6]), ([1, 7], [1, 7]), ([8, 7, 0, 1, 2, 3, 4, 5, 6, 7, 8], [8])])
def vernierref06_Head.B14 : List Nat := [0, 1, 0, 0, 8, 28, 60, 124, 255, 511]
theorem vernierref06_Head.tab14 : rtab .any (opsOf Try.f161 14) = vernierref06_Head.T14 := by kernel_rfl
theorem vernierref06_Head.bits14 : waitsOk vernierref06_Head.T14.2 vernierref06_Head.B14 = true := by kernel_rfl
set_option maxHeartbeats 8000000 in
set_option maxRecDepth 100000 in
theorem vernierref06_Head.calls (k : Nat) (a0 : Int) (r : ByteArray) (w : World) (h : vernierref06_Head.f k a0 = some r) :
  Calls Try.prog 161 #[.int .i64 a0] w fun e w' => e = .returned (.string r) ∧ Below w.heap.size w w' := by
 have HB := Aside0.mk (Below.refl w.heap.size w)
 have H := h
 clear h
 unfold vernierref06_Head.f at H
 replace H := Option.bind_eq_some_iff.mp H
 obtain ⟨t433, A20, H⟩ := H
 try dsimp only at H
 have A2 := Aside0.mk A20
 clear A20
 have H' := Aside0.mk H
 clear H
 go_enter Try.func161, Try.ntmps161
 go_wp2_with (first | ((with_reducible refine gate_callee (f := 167) rfl ?_); refine goesL_ (some 8) rfl rfl Try.func167 (by kernel_rfl) rfl #[.int .i64 a0] rfl (by (try simp only [List.map_toArray, List.map_cons, List.map_nil]); first | done | rfl | (simp only [List.length_drop, List.length_take]; rfl)) ?_; (with_reducible refine (vernierref06_regime.calls a0 t433 _ A2.out).mono ?_); rintro e w' ⟨rfl, ⟨nd, rfl⟩⟩; refine ⟨_, rfl, ?_⟩))
 go_loopg [4, 5] k (fun kq v4 v5 w' => ∃ (x4_1 : List Int) (x5_1 : Int), v5 = .int .i64 x5_1 ∧ Aside0 (vernierref06_Head.l0 kq a0 t433 x4_1 x5_1 = some r) ∧ Aside0 (kq ≤ k) ∧ Aside0 (Kd.R (Kd.int .u8) 5 w' w.heap.size (fun _ => True) v4 x4_1) ∧ Aside0 (Below w.heap.size w w'))
 case atStart => exact ⟨(([] : List Int)), (0), okT, H', ⟨Nat.le_refl _⟩, ⟨by first | exact Kd.R_nil _ _ _ _ _ | exact Kd.N_nil _ _ _ _ _ | exact Kd.V_nil _ _ _ _ _ | exact Kd.Q_nil _ _ _ _ _ | exact Kd.S_nil _ _ _ _ _⟩, ⟨hbT⟩⟩
 case round =>
  clear H'
  obtain ⟨x4_1, x5_1, rfl, HA, HK1, HO_4, HB⟩ := hrel
  cases gk with
  | zero => exact absurd HA.out (by simp [vernierref06_Head.l0])
  | succ k1 =>
   have H := HA.out
   clear HA
   simp only [vernierref06_Head.l0] at H
   by_cases c3 : x5_1 ≤ t433
   ·rw [if_pos c3] at H
    have c3b0 : decide (x5_1 ≤ t433) = true := decide_eq_true c3
    clear c3
    by_cases c4 : x4_1.length < 140737488355328
    ·rw [if_pos c4] at H
     have LMc4 := Aside0.mk c4
     clear c4
     obtain ⟨y434, hy434⟩ : ∃ y_ : List Int, y_ = (x4_1 ++ [49]) := ⟨_, rfl⟩
     replace H : (vernierref06_Head.l0 k1 a0 t433 y434 (wrap64 (x5_1 + 1))) = some r := by first | (rw [hy434]; with_reducible exact H) | (have H2_ := (Option.bind_some _ _).symm.trans H; rw [hy434]; with_reducible exact H2_) | (have H2_ := (Option.bind_some _ _).symm.trans H; with_reducible exact H2_) | with_reducible exact H | (rw [hy434]; exact H) | exact H
     have Ny434 := Aside0.mk hy434
     clear hy434
     have H' := Aside0.mk H
     clear H
     go_wp2_with (first | ((with_reducible refine gate_builtin (b := .append) (xs := #[.tmp 14, .tmp 15]) rfl ?_); at_builtin; refine Kd.R_append (Kd.int .u8) (w0 := w) w.heap.size rfl (.tmp 14) (.tmp 15) 184 5 (.int .u8 0) 1 rfl Try.underlying184 info5 rfl (by decide) (by omega) u4 x4_1 49 [.int .u8 49] (fun _ => True) (fun _ => False) rfl rfl ?aP (fun _ hk => hk.elim) ?aF ?aO ?aB ?aS ?aL ?_; (case aP => exact rfl); (case aB => exact hbT); (case aF => exact (fun _ _ => trivial)); (case aO => exact (by (with_reducible repeat (first | apply Kd.R_alloc | apply Kd.R_drewN | apply Kd.R_drew)); exact HO_4.out)); (case aS => exact (below_size hbT)); (case aL => have := LMc4.out; omega); intro v435 w5 ho hb hg hat; rw [← Ny434.out] at ho; have HO436 := Aside0.mk (ho); replace HB := Aside0.mk (hb); clear ho hb hg hat))
     go_roundg k1
     case measure => have := HK1.out; omega
     case rel => exact ⟨(y434), (wrap64 (x5_1 + 1)), okT, H', ⟨by have := HK1.out; omega⟩, ⟨by (with_reducible repeat (first | apply Kd.R_alloc | apply Kd.R_drewN | apply Kd.R_drew)); exact HO436.out⟩, ⟨hbT⟩⟩
    ·rw [if_neg c4] at H
     exact absurd H (by simp)
   ·rw [if_neg c3] at H
    have c3b0 : decide (x5_1 ≤ t433) = false := decide_eq_false c3
    clear c3
    have H' := Aside0.mk H
    clear H
    go_wp2
    go_loopg [4, 6] k1 (fun kq v4 v6 w' => ∃ (x4_2 : List Int) (x6_2 : Int), v6 = .int .i64 x6_2 ∧ Aside0 (vernierref06_Head.l1 kq a0 t433 x4_2 x6_2 = some r) ∧ Aside0 (kq ≤ k1) ∧ Aside0 (Kd.R (Kd.int .u8) 5 w' w.heap.size (fun _ => True) v4 x4_2) ∧ Aside0 (Below w.heap.size w w'))
    case atStart => exact ⟨(x4_1), (0), okT, H', ⟨Nat.le_refl _⟩, ⟨by (with_reducible repeat (first | apply Kd.R_alloc | apply Kd.R_drewN | apply Kd.R_drew)); exact HO_4.out⟩, ⟨hbT⟩⟩
    case round =>
     clear H'
     try clear c3
     try clear c3b0
     obtain ⟨x4_2, x6_2, rfl, HA, HK2, HO_4, HB⟩ := hrel
     cases gk with
     | zero => exact absurd HA.out (by simp [vernierref06_Head.l1])
     | succ k2 =>
      have H := HA.out
      clear HA
      simp only [vernierref06_Head.l1] at H
      by_cases c6 : x6_2 > t433
      ·rw [if_pos c6] at H
       have c6b0 : decide (t433 < x6_2) = true := decide_eq_true c6
       clear c6
       by_cases c7 : x4_2.length < 140737488355328
       ·rw [if_pos c7] at H
        have LMc7 := Aside0.mk c7
        clear c7
        obtain ⟨y437, hy437⟩ : ∃ y_ : List Int, y_ = (x4_2 ++ [48]) := ⟨_, rfl⟩
        replace H : (vernierref06_Head.l1 k2 a0 t433 y437 (wrap64 (x6_2 - 1))) = some r := by first | (rw [hy437]; with_reducible exact H) | (have H2_ := (Option.bind_some _ _).symm.trans H; rw [hy437]; with_reducible exact H2_) | (have H2_ := (Option.bind_some _ _).symm.trans H; with_reducible exact H2_) | with_reducible exact H | (rw [hy437]; exact H) | exact H
        have Ny437 := Aside0.mk hy437
        clear hy437
        have H' := Aside0.mk H
        clear H
        go_wp2_with (first | ((with_reducible refine gate_builtin (b := .append) (xs := #[.tmp 22, .tmp 23]) rfl ?_); at_builtin; refine Kd.R_append (Kd.int .u8) (w0 := w) w.heap.size rfl (.tmp 22) (.tmp 23) 184 5 (.int .u8 0) 1 rfl Try.underlying184 info5 rfl (by decide) (by omega) u4 x4_2 48 [.int .u8 48] (fun _ => True) (fun _ => False) rfl rfl ?aP (fun _ hk => hk.elim) ?aF ?aO ?aB ?aS ?aL ?_; (case aP => exact rfl); (case aB => exact hbT); (case aF => exact (fun _ _ => trivial)); (case aO => exact (by (with_reducible repeat (first | apply Kd.R_alloc | apply Kd.R_drewN | apply Kd.R_drew)); exact HO_4.out)); (case aS => exact (below_size hbT)); (case aL => have := LMc7.out; omega); intro v438 w8 ho hb hg hat; rw [← Ny437.out] at ho; have HO439 := Aside0.mk (ho); replace HB := Aside0.mk (hb); clear ho hb hg hat))
        go_roundg k2
        case measure => have := HK1.out; have := HK2.out; omega
        case rel => exact ⟨(y437), (wrap64 (x6_2 - 1)), okT, H', ⟨by have := HK1.out; have := HK2.out; omega⟩, ⟨by (with_reducible repeat (first | apply Kd.R_alloc | apply Kd.R_drewN | apply Kd.R_drew)); exact HO439.out⟩, ⟨hbT⟩⟩
       ·rw [if_neg c7] at H
        exact absurd H (by simp)
      ·rw [if_neg c6] at H
       have c6b0 : decide (t433 < x6_2) = false := decide_eq_false c6
       clear c6
       by_cases c9 : t433 ≥ 0
       ·rw [if_pos c9] at H
        have c9b0 : decide (0 ≤ t433) = true := decide_eq_true c9
        clear c9
        by_cases c10 : x4_2.length < 140737488355328
        ·rw [if_pos c10] at H
         have LMc10 := Aside0.mk c10
         clear c10
         obtain ⟨y440, hy440⟩ : ∃ y_ : List Int, y_ = (x4_2 ++ [48]) := ⟨_, rfl⟩
         replace H : ((vernierref01_Text.f k2 (IntKind.u64.wrap (wrap64 (a0 - (wrap64 (4 * t433))))) 2).bind fun t443 => (if (strOfNums y440).size + t443.size ≤ 9223372036854775807 then (some ((strOfNums y440) ++ t443)) else (none))) = some r := by first | (rw [hy440]; with_reducible exact H) | (have H2_ := (Option.bind_some _ _).symm.trans H; rw [hy440]; with_reducible exact H2_) | (have H2_ := (Option.bind_some _ _).symm.trans H; with_reducible exact H2_) | with_reducible exact H | (rw [hy440]; exact H) | exact H
         have Ny440 := Aside0.mk hy440
         clear hy440
         replace H := Option.bind_eq_some_iff.mp H
         obtain ⟨t443, A110, H⟩ := H
         try dsimp only at H
         have A11 := Aside0.mk A110
         clear A110
         by_cases c12 : (strOfNums y440).size + t443.size ≤ 9223372036854775807
         ·rw [if_pos c12] at H
          have c12b0 := eq_true c12
          have c12b1 : decide ((strOfNums y440).size + t443.size ≤ 9223372036854775807) = true := decide_eq_true c12
          try have c12b2 : (9223372036854775807 < (strOfNums y440).size + t443.size) = False := eq_false (Nat.not_lt.2 c12)
          obtain rfl := Option.some.inj H
          try go_wp2_with (first | ((with_reducible refine gate_builtin (b := .append) (xs := #[.tmp 27, .tmp 28]) rfl ?_); at_builtin; refine Kd.R_append (Kd.int .u8) (w0 := w) w.heap.size rfl (.tmp 27) (.tmp 28) 184 5 (.int .u8 0) 1 rfl Try.underlying184 info5 rfl (by decide) (by omega) u4 x4_2 48 [.int .u8 48] (fun _ => True) (fun _ => False) rfl rfl ?aP (fun _ hk => hk.elim) ?aF ?aO ?aB ?aS ?aL ?_; (case aP => exact rfl); (case aB => exact hbT); (case aF => exact (fun _ _ => trivial)); (case aO => exact (by (with_reducible repeat (first | apply Kd.R_alloc | apply Kd.R_drewN | apply Kd.R_drew)); exact HO_4.out)); (case aS => exact (below_size hbT)); (case aL => have := LMc10.out; omega); intro v441 w13 ho hb hg hat; rw [← Ny440.out] at ho; have HO442 := Aside0.mk (ho); replace HB := Aside0.mk (hb); clear ho hb hg hat))
          have n0_ := Aside0.mk (Kd.R_drew HO442.out)
          have n1_ := Aside0.mk (below_drew1 HB.out)
          clear HO442
          clear HB
          have HO442 := n0_
          have HB := n1_
          clear n0_ n1_
          have hcv15 := own_string (P := Try.prog) Try.underlying184 Try.underlying5 Try.underlying9 (Kd.own_of_R HO442.out)
          refine start_ (n := 10) (S := fun w' => Kd.R (Kd.int .u8) 5 w' w.heap.size (fun _ => True) v441 y440) (ds := []) #[false, false, false, false, false, false, false, false, false, false] (by kernel_rfl) rfl rfl HO442.out (fun hHeld => ?_); refine with_tabW vernierref06_Head.tab14 vernierref06_Head.bits14 (fun HT_ HW_ => ?_)
          generalize w13.drew = w14 at HO442 HB hHeld ⊢
          refine pure_ (i := 0) (N := some 33) (v := ?_) (a' := ?_) #[true, false, false, false, false, false, false, false, false, false] rfl rfl (any_of HT_.out (by kernel_rfl)) (fun _ _ _ h => h) (Or.inl ⟨by rfl, ?_⟩) ?_ ?_
          rotate_left
          ·intro w'
           go_simp
           with_reducible rfl
          rotate_left
          ·simp only [Act.put, List.setIfInBounds_toArray, List.set_cons_zero, List.set_cons_succ, i64_w, i32_w]
           rfl
          refine take_ (i := 1) (N := some 34) (v := ?_) (a' := ?_) #[true, true, false, false, false, false, false, false, false, false] rfl rfl (take_ofW HT_.out HW_.out (by kernel_rfl)) (fun _ _ _ h => h) (Or.inl ⟨by rfl, ?_⟩) hHeld ?_ ?_
          rotate_left
          ·intro w' hs
           have hcv := own_string (P := Try.prog) Try.underlying184 Try.underlying5 Try.underlying9 (Kd.own_of_R hs)
           go_simp
           first | (with_reducible rfl) | (rw [hcv]; rfl) | (simp only [hcv]; rfl)
          rotate_left
          ·simp only [Act.put, List.setIfInBounds_toArray, List.set_cons_zero, List.set_cons_succ, i64_w, i32_w]
           rfl
          refine pure_ (i := 2) (N := some 35) (v := ?_) (a' := ?_) #[true, true, true, false, false, false, false, false, false, false] rfl rfl (any_of HT_.out (by kernel_rfl)) (fun _ _ _ h => h) (Or.inl ⟨by rfl, ?_⟩) ?_ ?_
          rotate_left
          ·intro w'
           go_simp
           with_reducible rfl
          rotate_left
          ·simp only [Act.put, List.setIfInBounds_toArray, List.set_cons_zero, List.set_cons_succ, i64_w, i32_w]
           rfl
          refine pure_ (i := 3) (N := some 36) (v := ?_) (a' := ?_) #[true, true, true, true, false, false, false, false, false, false] rfl rfl (any_of HT_.out (by kernel_rfl)) (fun _ _ _ h => h) (Or.inl ⟨by rfl, ?_⟩) ?_ ?_
          rotate_left
          ·intro w'
           go_simp
           with_reducible rfl
          rotate_left
          ·simp only [Act.put, List.setIfInBounds_toArray, List.set_cons_zero, List.set_cons_succ, i64_w, i32_w]
           rfl
          refine pure_ (i := 4) (N := some 37) (v := ?_) (a' := ?_) #[true, true, true, true, true, false, false, false, false, false] rfl rfl (any_of HT_.out (by kernel_rfl)) (fun _ _ _ h => h) (Or.inl ⟨by rfl, ?_⟩) ?_ ?_
          rotate_left
          ·intro w'
           go_simp
           with_reducible rfl
          rotate_left
          ·simp only [Act.put, List.setIfInBounds_toArray, List.set_cons_zero, List.set_cons_succ, i64_w, i32_w]
           rfl
          refine pure_ (i := 5) (N := some 38) (v := ?_) (a' := ?_) #[true, true, true, true, true, true, false, false, false, false] rfl rfl (any_of HT_.out (by kernel_rfl)) (fun _ _ _ h => h) (Or.inl ⟨by rfl, ?_⟩) ?_ ?_
          rotate_left
          ·intro w'
           go_simp
           with_reducible rfl
          rotate_left
          ·simp only [Act.put, List.setIfInBounds_toArray, List.set_cons_zero, List.set_cons_succ, i64_w, i32_w]
           rfl
          refine pure_ (i := 6) (N := some 39) (v := ?_) (a' := ?_) #[true, true, true, true, true, true, true, false, false, false] rfl rfl (any_of HT_.out (by kernel_rfl)) (fun _ _ _ h => h) (Or.inl ⟨by rfl, ?_⟩) ?_ ?_
          rotate_left
          ·intro w'
           go_simp
           with_reducible rfl
          rotate_left
          ·simp only [Act.put, List.setIfInBounds_toArray, List.set_cons_zero, List.set_cons_succ, i64_w, i32_w]
           rfl
          refine one_ (i := 7) (N := some 40) #[true, true, true, true, true, true, true, true, false, false] rfl rfl (one_of HT_.out (by kernel_rfl)) (by decide) (fun K hK => ?_)
          refine goes_ Try.func110 (by kernel_rfl) rfl #[.int .u64 (IntKind.u64.wrap (wrap64 (a0 - (wrap64 (4 * t433))))), .int .i64 2] (by rfl) rfl rfl (by (try simp only [List.map_toArray, List.map_cons, List.map_nil]); first | done | rfl | (simp only [List.length_drop, List.length_take]; rfl)) ?_
          with_reducible refine (vernierref01_Text.calls k2 (IntKind.u64.wrap (wrap64 (a0 - (wrap64 (4 * t433))))) 2 t443 _ A11.out).mono ?_
          rintro e w16 ⟨rfl, hb⟩
          refine ⟨_, rfl, ?_⟩
          have n0_ := Aside0.mk (Kd.R_below (by (with_reducible repeat (first | apply Kd.R_alloc | apply Kd.R_drewN | apply Kd.R_drew)); exact HO442.out) hb)
          have n1_ := hbS hb
          clear HO442
          clear HB
          have HO442 := n0_
          have HB := n1_
          clear n0_ n1_
          (try clear hb)
          (try clear hb2)
          (try clear hk)
          (try clear hi)
          refine hK.out _ _ HO442.out (fun hHeld => ?_)
          clear hK K
          refine norm_ (a' := ?_) ?_ ?_
          rotate_left
          ·show Act.put _ (some 40) _ = _
           simp only [Act.put, List.setIfInBounds_toArray, List.set_cons_zero, List.set_cons_succ, i64_w, i32_w]
           rfl
          refine pure_ (i := 8) (N := some 41) (v := ?_) (a' := ?_) #[true, true, true, true, true, true, true, true, true, false] rfl rfl (any_of HT_.out (by kernel_rfl)) (fun _ _ _ h => h) (Or.inl ⟨by rfl, ?_⟩) ?_ ?_
          rotate_left
          ·intro w'
           go_simp
           with_reducible rfl
          rotate_left
          ·simp only [Act.put, List.setIfInBounds_toArray, List.set_cons_zero, List.set_cons_succ, i64_w, i32_w]
           rfl
          refine pure_ (i := 9) (N := some 2) (v := ?_) (a' := ?_) #[true, true, true, true, true, true, true, true, true, true] rfl rfl (any_of HT_.out (by kernel_rfl)) (fun _ _ _ h => h) (Or.inl ⟨by rfl, ?_⟩) ?_ ?_
          rotate_left
          ·intro w'
           go_simp
           with_reducible rfl
          rotate_left
          ·simp only [Act.put, List.setIfInBounds_toArray, List.set_cons_zero, List.set_cons_succ, i64_w, i32_w]
           rfl
          refine done_ (done_of HT_.out (by kernel_rfl)) ?_
          try go_wp2
          go_ret
          exact ⟨reT, hbT⟩
         ·rw [if_neg c12] at H
          exact absurd H (by simp)
        ·rw [if_neg c10] at H
         exact absurd H (by simp)
       ·rw [if_neg c9] at H
        have c9b0 : decide (0 ≤ t433) = false := decide_eq_false c9
        clear c9
        by_cases c18 : x4_2.length < 140737488355328
        ·rw [if_pos c18] at H
         have LMc18 := Aside0.mk c18
         clear c18
         obtain ⟨y444, hy444⟩ : ∃ y_ : List Int, y_ = (x4_2 ++ [49]) := ⟨_, rfl⟩
         replace H : ((vernierref01_Text.f k2 (IntKind.u64.wrap (wrap64 (a0 - (wrap64 (4 * t433))))) 2).bind fun t447 => (if (strOfNums y444).size + t447.size ≤ 9223372036854775807 then (some ((strOfNums y444) ++ t447)) else (none))) = some r := by first | (rw [hy444]; with_reducible exact H) | (have H2_ := (Option.bind_some _ _).symm.trans H; rw [hy444]; with_reducible exact H2_) | (have H2_ := (Option.bind_some _ _).symm.trans H; with_reducible exact H2_) | with_reducible exact H | (rw [hy444]; exact H) | exact H
         have Ny444 := Aside0.mk hy444
         clear hy444
         replace H := Option.bind_eq_some_iff.mp H
         obtain ⟨t447, A190, H⟩ := H
         try dsimp only at H
         have A19 := Aside0.mk A190
         clear A190
         by_cases c20 : (strOfNums y444).size + t447.size ≤ 9223372036854775807
         ·rw [if_pos c20] at H
          have c20b0 := eq_true c20
          have c20b1 : decide ((strOfNums y444).size + t447.size ≤ 9223372036854775807) = true := decide_eq_true c20
          try have c20b2 : (9223372036854775807 < (strOfNums y444).size + t447.size) = False := eq_false (Nat.not_lt.2 c20)
          obtain rfl := Option.some.inj H
          try go_wp2_with (first | ((with_reducible refine gate_builtin (b := .append) (xs := #[.tmp 30, .tmp 31]) rfl ?_); at_builtin; refine Kd.R_append (Kd.int .u8) (w0 := w) w.heap.size rfl (.tmp 30) (.tmp 31) 184 5 (.int .u8 0) 1 rfl Try.underlying184 info5 rfl (by decide) (by omega) u4 x4_2 49 [.int .u8 49] (fun _ => True) (fun _ => False) rfl rfl ?aP (fun _ hk => hk.elim) ?aF ?aO ?aB ?aS ?aL ?_; (case aP => exact rfl); (case aB => exact hbT); (case aF => exact (fun _ _ => trivial)); (case aO => exact (by (with_reducible repeat (first | apply Kd.R_alloc | apply Kd.R_drewN | apply Kd.R_drew)); exact HO_4.out)); (case aS => exact (below_size hbT)); (case aL => have := LMc18.out; omega); intro v445 w21 ho hb hg hat; rw [← Ny444.out] at ho; have HO446 := Aside0.mk (ho); replace HB := Aside0.mk (hb); clear ho hb hg hat))
          have n0_ := Aside0.mk (Kd.R_drew HO446.out)
          have n1_ := Aside0.mk (below_drew1 HB.out)
          clear HO446
          clear HB
          have HO446 := n0_
          have HB := n1_
          clear n0_ n1_
          have hcv23 := own_string (P := Try.prog) Try.underlying184 Try.underlying5 Try.underlying9 (Kd.own_of_R HO446.out)
          refine start_ (n := 10) (S := fun w' => Kd.R (Kd.int .u8) 5 w' w.heap.size (fun _ => True) v445 y444) (ds := []) #[false, false, false, false, false, false, false, false, false, false] (by kernel_rfl) rfl rfl HO446.out (fun hHeld => ?_); refine with_tabW vernierref06_Head.tab14 vernierref06_Head.bits14 (fun HT_ HW_ => ?_)
          generalize w21.drew = w22 at HO446 HB hHeld ⊢
          refine pure_ (i := 0) (N := some 33) (v := ?_) (a' := ?_) #[true, false, false, false, false, false, false, false, false, false] rfl rfl (any_of HT_.out (by kernel_rfl)) (fun _ _ _ h => h) (Or.inl ⟨by rfl, ?_⟩) ?_ ?_
          rotate_left
          ·intro w'
           go_simp
           with_reducible rfl
          rotate_left
          ·simp only [Act.put, List.setIfInBounds_toArray, List.set_cons_zero, List.set_cons_succ, i64_w, i32_w]
           rfl
          refine take_ (i := 1) (N := some 34) (v := ?_) (a' := ?_) #[true, true, false, false, false, false, false, false, false, false] rfl rfl (take_ofW HT_.out HW_.out (by kernel_rfl)) (fun _ _ _ h => h) (Or.inl ⟨by rfl, ?_⟩) hHeld ?_ ?_
          rotate_left
          ·intro w' hs
           have hcv := own_string (P := Try.prog) Try.underlying184 Try.underlying5 Try.underlying9 (Kd.own_of_R hs)
           go_simp
           first | (with_reducible rfl) | (rw [hcv]; rfl) | (simp only [hcv]; rfl)
          rotate_left
          ·simp only [Act.put, List.setIfInBounds_toArray, List.set_cons_zero, List.set_cons_succ, i64_w, i32_w]
           rfl
          refine pure_ (i := 2) (N := some 35) (v := ?_) (a' := ?_) #[true, true, true, false, false, false, false, false, false, false] rfl rfl (any_of HT_.out (by kernel_rfl)) (fun _ _ _ h => h) (Or.inl ⟨by rfl, ?_⟩) ?_ ?_
          rotate_left
          ·intro w'
           go_simp
           with_reducible rfl
          rotate_left
          ·simp only [Act.put, List.setIfInBounds_toArray, List.set_cons_zero, List.set_cons_succ, i64_w, i32_w]
           rfl
          refine pure_ (i := 3) (N := some 36) (v := ?_) (a' := ?_) #[true, true, true, true, false, false, false, false, false, false] rfl rfl (any_of HT_.out (by kernel_rfl)) (fun _ _ _ h => h) (Or.inl ⟨by rfl, ?_⟩) ?_ ?_
          rotate_left
          ·intro w'
           go_simp
           with_reducible rfl
          rotate_left
          ·simp only [Act.put, List.setIfInBounds_toArray, List.set_cons_zero, List.set_cons_succ, i64_w, i32_w]
           rfl
          refine pure_ (i := 4) (N := some 37) (v := ?_) (a' := ?_) #[true, true, true, true, true, false, false, false, false, false] rfl rfl (any_of HT_.out (by kernel_rfl)) (fun _ _ _ h => h) (Or.inl ⟨by rfl, ?_⟩) ?_ ?_
          rotate_left
          ·intro w'
           go_simp
           with_reducible rfl
          rotate_left
          ·simp only [Act.put, List.setIfInBounds_toArray, List.set_cons_zero, List.set_cons_succ, i64_w, i32_w]
           rfl
          refine pure_ (i := 5) (N := some 38) (v := ?_) (a' := ?_) #[true, true, true, true, true, true, false, false, false, false] rfl rfl (any_of HT_.out (by kernel_rfl)) (fun _ _ _ h => h) (Or.inl ⟨by rfl, ?_⟩) ?_ ?_
          rotate_left
          ·intro w'
           go_simp
           with_reducible rfl
          rotate_left
          ·simp only [Act.put, List.setIfInBounds_toArray, List.set_cons_zero, List.set_cons_succ, i64_w, i32_w]
           rfl
          refine pure_ (i := 6) (N := some 39) (v := ?_) (a' := ?_) #[true, true, true, true, true, true, true, false, false, false] rfl rfl (any_of HT_.out (by kernel_rfl)) (fun _ _ _ h => h) (Or.inl ⟨by rfl, ?_⟩) ?_ ?_
          rotate_left
          ·intro w'
           go_simp
           with_reducible rfl
          rotate_left
          ·simp only [Act.put, List.setIfInBounds_toArray, List.set_cons_zero, List.set_cons_succ, i64_w, i32_w]
           rfl
          refine one_ (i := 7) (N := some 40) #[true, true, true, true, true, true, true, true, false, false] rfl rfl (one_of HT_.out (by kernel_rfl)) (by decide) (fun K hK => ?_)
          refine goes_ Try.func110 (by kernel_rfl) rfl #[.int .u64 (IntKind.u64.wrap (wrap64 (a0 - (wrap64 (4 * t433))))), .int .i64 2] (by rfl) rfl rfl (by (try simp only [List.map_toArray, List.map_cons, List.map_nil]); first | done | rfl | (simp only [List.length_drop, List.length_take]; rfl)) ?_
          with_reducible refine (vernierref01_Text.calls k2 (IntKind.u64.wrap (wrap64 (a0 - (wrap64 (4 * t433))))) 2 t447 _ A19.out).mono ?_
          rintro e w24 ⟨rfl, hb⟩
          refine ⟨_, rfl, ?_⟩
          have n0_ := Aside0.mk (Kd.R_below (by (with_reducible repeat (first | apply Kd.R_alloc | apply Kd.R_drewN | apply Kd.R_drew)); exact HO446.out) hb)
          have n1_ := hbS hb
          clear HO446
          clear HB
          have HO446 := n0_
          have HB := n1_
          clear n0_ n1_
          (try clear hb)
          (try clear hb2)
          (try clear hk)
          (try clear hi)
          refine hK.out _ _ HO446.out (fun hHeld => ?_)
          clear hK K
          refine norm_ (a' := ?_) ?_ ?_
          rotate_left
          ·show Act.put _ (some 40) _ = _
           simp only [Act.put, List.setIfInBounds_toArray, List.set_cons_zero, List.set_cons_succ, i64_w, i32_w]
           rfl
          refine pure_ (i := 8) (N := some 41) (v := ?_) (a' := ?_) #[true, true, true, true, true, true, true, true, true, false] rfl rfl (any_of HT_.out (by kernel_rfl)) (fun _ _ _ h => h) (Or.inl ⟨by rfl, ?_⟩) ?_ ?_
          rotate_left
          ·intro w'
           go_simp
           with_reducible rfl
          rotate_left
          ·simp only [Act.put, List.setIfInBounds_toArray, List.set_cons_zero, List.set_cons_succ, i64_w, i32_w]
           rfl
          refine pure_ (i := 9) (N := some 2) (v := ?_) (a' := ?_) #[true, true, true, true, true, true, true, true, true, true] rfl rfl (any_of HT_.out (by kernel_rfl)) (fun _ _ _ h => h) (Or.inl ⟨by rfl, ?_⟩) ?_ ?_
          rotate_left
          ·intro w'
           go_simp
           with_reducible rfl
          rotate_left
          ·simp only [Act.put, List.setIfInBounds_toArray, List.set_cons_zero, List.set_cons_succ, i64_w, i32_w]
           rfl
          refine done_ (done_of HT_.out (by kernel_rfl)) ?_
          try go_wp2
          go_ret
          exact ⟨reT, hbT⟩
         ·rw [if_neg c20] at H
          exact absurd H (by simp)
        ·rw [if_neg c18] at H
         exact absurd H (by simp)
end Go.Proofs.Ytnlbfomlfhigcaa.Q
