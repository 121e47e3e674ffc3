/- Walks and plain laws that the claim stands on: each theorem named calls says that a call of a function returns what its f computes; the others are plain laws of these f, and the words that the walks use. -/
import Derived.Test.YtnlbfomlfhigcaaGenConvertsV2
namespace Go.Proofs.Ytnlbfomlfhigcaa.Q
open Go.RowKit Go.Proofs.YtnlbfomlfhigcaaW.PrintWords Go.Proofs.YtnlbfomlfhigcaaW.PrintLast Go.Proofs.YtnlbfomlfhigcaaW.PrintMore
attribute [local go_sem] max2_int min2_int max_two min_two max_three min_three max_four min_four
set_option linter.unusedVariables false
set_option linter.unusedSimpArgs false
mutual
def codec_Split.j0 : Nat → Int → Int → Option Int → Bool → Option (Bool × Bool × Int × Int × Int × Int × Int × Int × Option Int)
 | 0, _, _, _, _ => none
 | k + 1, x0, x1, x7, x25 => if x25 = true then (some (false, false, 0, 0, 0, 0, 0, 0, x7)) else ((shape_Rank.f x0 x1).bind fun bt120 => (if bt120.1 < 0 then (codec_Split.j1 k x0 (IntKind.u64.wrap (-x1)) true false 0 0 0 0 0 0) else (codec_Split.j1 k x0 x1 false false 0 0 0 0 0 0)))
def codec_Split.j1 : Nat → Int → Int → Bool → Bool → Int → Int → Int → Int → Int → Int → Option (Bool × Bool × Int × Int × Int × Int × Int × Int × Option Int)
 | 0, _, _, _, _, _, _, _, _, _, _ => none
 | k + 1, x0, x1, x120000, x120001, x120002, x120003, x120004, x120005, x120006, x120007 => (lead_Run.f k x1 (wrap64 (x0 - 1))).bind fun bt122 => (if bt122.1 = true then (codec_Split.j2 k x1 (wrap64 (x0 - 1)) x120000 bt122.1 bt122.2.1 (wrap64 (bt122.2.1 - 1)) x120004 x120005 x120006 x120007) else (codec_Split.j2 k x1 (wrap64 (x0 - 1)) x120000 bt122.1 bt122.2.1 (wrap64 (-bt122.2.1)) x120004 x120005 x120006 x120007))
def codec_Split.j2 : Nat → Int → Int → Bool → Bool → Int → Int → Int → Int → Int → Int → Option (Bool × Bool × Int × Int × Int × Int × Int × Int × Option Int)
 | 0, _, _, _, _, _, _, _, _, _, _ => none
 | k + 1, x1, x11, x120000, x120001, x120002, x120003, x120004, x120005, x120006, x120007 => (lead_Field.f x1 (wrap64 ((mx (wrap64 ((wrap64 (x11 - x120002)) - 1)) 0) - (mn (mx (wrap64 ((wrap64 (x11 - x120002)) - 1)) 0) 2))) (mn (mx (wrap64 ((wrap64 (x11 - x120002)) - 1)) 0) 2)).bind fun bt125 => (if 0 ≤ (wrap64 (2 - (mn (mx (wrap64 ((wrap64 (x11 - x120002)) - 1)) 0) 2))) then ((lead_Field.f x1 0 (wrap64 ((mx (wrap64 ((wrap64 (x11 - x120002)) - 1)) 0) - (mn (mx (wrap64 ((wrap64 (x11 - x120002)) - 1)) 0) 2)))).bind fun bt127 => (some (x120000, x120001, x120002, x120003, mn (mx (wrap64 ((wrap64 (x11 - x120002)) - 1)) 0) 2, shl .i64 (wrap64 (bt125.1)) (wrap64 (2 - (mn (mx (wrap64 ((wrap64 (x11 - x120002)) - 1)) 0) 2))), wrap64 ((mx (wrap64 ((wrap64 (x11 - x120002)) - 1)) 0) - (mn (mx (wrap64 ((wrap64 (x11 - x120002)) - 1)) 0) 2)), bt127.1, none))) else (none))
end
def codec_Split.f (k : Nat) (a0 : Int) (a1 : Int) : Option (Bool × Bool × Int × Int × Int × Int × Int × Int × Option Int) := (shape_Kind.f a0 a1).bind fun bt116 => (if bt116.2.isNone = true then (codec_Split.j0 k a0 a1 none (bt116.1 != 1)) else (codec_Split.j0 k a0 a1 (some (bt116.2.getD 0)) true))
set_option maxHeartbeats 8000000 in
set_option maxRecDepth 100000 in
theorem codec_Split.calls (k : Nat) (a0 : Int) (a1 : Int) (r1 : Bool) (r2 : Bool) (r3 : Int) (r4 : Int) (r5 : Int) (r6 : Int) (r7 : Int) (r8 : Int) (r9 : Option Int) (w : World) (h : codec_Split.f k a0 a1 = some (r1, r2, r3, r4, r5, r6, r7, r8, r9)) :
  Calls Try.prog 97 #[.int .i64 a0, .int .u64 a1] w fun e w' => e = .returned (.tuple #[.agg #[.bool r1, .bool r2, .int .i64 r3, .int .i64 r4, .int .i64 r5, .int .i64 r6, .int .i64 r7, .int .u64 r8], errW r9]) ∧ Below w.heap.size w w' := by
 have hu131 := Try.underlying131
 have hu43 := Try.underlying43
 have hu82 := Try.underlying82
 have HB := Aside0.mk (Below.refl w.heap.size w)
 have H := h
 clear h
 unfold codec_Split.f at H
 replace H := Option.bind_eq_some_iff.mp H
 obtain ⟨⟨t116, t117⟩, A30, H⟩ := H
 try dsimp only at H
 have A3 := Aside0.mk A30
 clear A30
 have HC4 := Aside0.mk H
 clear H
 go_enter Try.func97, Try.ntmps97
 go_upto_region 2 with (first | ((with_reducible refine gate_dst (N := 4) rfl ?_); refine boxA 4 (#[.bool false, .bool false, .int .i64 0, .int .i64 0, .int .i64 0, .int .i64 0, .int .i64 0, .int .u64 0]) 131 ?_; intro gb115 hg w5 BK115 hb; have GW115 := geT hg; have GE115 := GW115; replace HB := hbS hb; clear hb hg) | ((with_reducible refine gate_callee (f := 70) rfl ?_); refine goesL_ (some 17) rfl rfl Try.func70 (by kernel_rfl) rfl #[.int .i64 a0, .int .u64 a1] rfl (by (try simp only [List.map_toArray, List.map_cons, List.map_nil]); first | done | rfl | (simp only [List.length_drop, List.length_take]; rfl)) ?_; (with_reducible refine (shape_Kind.calls a0 a1 t116 t117 _ A3.out).mono ?_); rintro e w' ⟨rfl, ⟨nd, rfl⟩⟩; refine ⟨_, rfl, ?_⟩; (try simp only [errW_none, errW_some])))
 (try simp only [Act.put, List.setIfInBounds_toArray, List.set_cons_zero, List.set_cons_succ])
 go_cut [25] (fun v25 wc => ∃ (kq : Nat) (x25_3 : Bool), v25 = .bool x25_3 ∧ Aside0 (codec_Split.j0 kq a0 a1 t117 x25_3 = some (r1, r2, r3, r4, r5, r6, r7, r8, r9)) ∧ Aside0 (kq ≤ k) ∧ Aside0 (wc.heap[gb115]? = some (.cells #[.bool false, .bool false, .int .i64 0, .int .i64 0, .int .i64 0, .int .i64 0, .int .i64 0, .int .u64 0] 131 (0, 0))) ∧ Aside0 (Below w.heap.size w wc))
 case first =>
  have H := HC4.out
  clear HC4
  rcases t117 with _ | q118
  ·rw [if_pos (show (none : Option Int).isNone = true by rfl)] at H
   try simp only [errW_none, errW_some]
   have H' := Aside0.mk H
   clear H
   go_wp2
   go_meet
   case rel => exact ⟨_, ((t116 != 1)), okT, H', leT, ⟨bkT BK115⟩, ⟨hbT⟩⟩
  ·rw [if_neg (show ¬ (some q118).isNone = true by simp)] at H
   try simp only [errW_none, errW_some]
   have H' := Aside0.mk H
   clear H
   go_wp2
   go_meet
   case rel => exact ⟨_, (true), okT, H', leT, ⟨bkT BK115⟩, ⟨hbT⟩⟩
 case rest =>
  clear HC4
  obtain ⟨kq, x25_3, rfl, HA, HJ3, BK115, HB⟩ := hcut
  cases kq with
  | zero => exact absurd HA.out (by simp [codec_Split.j0])
  | succ kj3 =>
   have H := HA.out
   clear HA
   simp only [codec_Split.j0] at H
   by_cases c6 : x25_3 = true
   ·subst c6
    rw [if_pos rfl] at H
    simp only [Option.some.injEq, Prod.mk.injEq] at H
    obtain ⟨rfl, rfl, rfl, rfl, rfl, rfl, rfl, rfl, rfl⟩ := H
    obtain ⟨z7_0, z7_1, z7_2, z7_3, z7_4, z7_5, z7_6, z7_7, y7_0, y7_1, y7_2, y7_3, y7_4, y7_5, y7_6, y7_7⟩ := cz8 BK115
    go_wp2
    refine bodyPost_ret (results_ct rfl _ _ gb115 131 #[.bool false, .bool false, .int .i64 0, .int .i64 0, .int .i64 0, .int .i64 0, .int .i64 0, .int .u64 0] (0, 0) _ rfl (bkT BK115) Try.underlying131 rfl (by kernel_rfl)) rfl ?_
    exact ⟨reT, hbT⟩
   ·replace c6 := Bool.eq_false_iff.mpr c6
    subst c6
    rw [if_neg (show ¬ (false = true) by decide)] at H
    replace H := Option.bind_eq_some_iff.mp H
    obtain ⟨⟨t120, t121⟩, A80, H⟩ := H
    try dsimp only at H
    have A8 := Aside0.mk A80
    clear A80
    have HC9 := Aside0.mk H
    clear H
    go_upto_if 35 with (first | ((with_reducible refine gate_dst (N := 8) rfl ?_); refine boxA 8 (#[.bool false, .bool false, .int .i64 0, .int .i64 0, .int .i64 0, .int .i64 0, .int .i64 0, .int .u64 0]) 131 ?_; intro gb119 hg w10 BK119 hb; have GW119 := geT hg; have GE119 := GW119; obtain ⟨NB115_119, NB119_115⟩ := neT BK115 hg; replace BK115 := bkB BK115 hb; replace HB := hbS hb; clear hb hg) | ((with_reducible refine gate_callee (f := 96) rfl ?_); refine goesL_ (some 31) rfl rfl Try.func96 (by kernel_rfl) rfl #[.int .i64 a0, .int .u64 a1] rfl (by (try simp only [List.map_toArray, List.map_cons, List.map_nil]); first | done | rfl | (simp only [List.length_drop, List.length_take]; rfl)) ?_; (with_reducible refine (shape_Rank.calls a0 a1 t120 t121 _ A8.out).mono ?_); rintro e w' ⟨rfl, ⟨nd, rfl⟩⟩; refine ⟨_, rfl, ?_⟩; (try simp only [errW_none, errW_some])))
    (try simp only [Act.put, List.setIfInBounds_toArray, List.set_cons_zero, List.set_cons_succ])
    go_cut [1] (fun v1 wc => ∃ (kq : Nat) (x1_8 : Int) (x120000_8 : Bool), v1 = .int .u64 x1_8 ∧ Aside0 (codec_Split.j1 kq a0 x1_8 x120000_8 false 0 0 0 0 0 0 = some (r1, r2, r3, r4, r5, r6, r7, r8, r9)) ∧ Aside0 (kq ≤ kj3) ∧ Aside0 (wc.heap[gb115]? = some (.cells #[.bool false, .bool false, .int .i64 0, .int .i64 0, .int .i64 0, .int .i64 0, .int .i64 0, .int .u64 0] 131 (0, 0))) ∧ Aside0 (wc.heap[gb119]? = some (.cells #[.bool x120000_8, .bool false, .int .i64 0, .int .i64 0, .int .i64 0, .int .i64 0, .int .i64 0, .int .u64 0] 131 (0, 0))) ∧ Aside0 (Below w.heap.size w wc))
    case first =>
     have H := HC9.out
     clear HC9
     by_cases c11 : t120 < 0
     ·rw [if_pos c11] at H
      have c11b0 : decide (t120 < 0) = true := decide_eq_true c11
      clear c11
      (first | rw [c11b0] | (simp only [i64_w, i32_w]; rw [c11b0]) | rw [c11b1] | skip)
      have H' := Aside0.mk H
      clear H
      have hnb12 := NB119_115.out
      have hnc12 := NB115_119.out
      obtain ⟨z13_0, z13_1, z13_2, z13_3, z13_4, z13_5, z13_6, z13_7, y13_0, y13_1, y13_2, y13_3, y13_4, y13_5, y13_6, y13_7⟩ := cz8 BK119
      go_wp2
      go_meet
      case rel => exact ⟨_, (IntKind.u64.wrap (-a1)), (true), okT, H', ⟨by have := HJ3.out; first | omega | exact Nat.le_refl _⟩, ⟨bkT BK115⟩, ⟨bkT BK119⟩, ⟨hbT⟩⟩
     ·rw [if_neg c11] at H
      have c11b0 : decide (t120 < 0) = false := decide_eq_false c11
      clear c11
      (first | rw [c11b0] | (simp only [i64_w, i32_w]; rw [c11b0]) | rw [c11b1] | skip)
      have H' := Aside0.mk H
      clear H
      go_wp2
      go_meet
      case rel => exact ⟨_, (a1), (false), okT, H', ⟨by have := HJ3.out; first | omega | exact Nat.le_refl _⟩, ⟨bkT BK115⟩, ⟨bkT BK119⟩, ⟨hbT⟩⟩
    case rest =>
     clear HC9
     try clear c6
     obtain ⟨kq, x1_8, x120000_8, rfl, HA, HJ8, BK115, BK119, HB⟩ := hcut
     cases kq with
     | zero => exact absurd HA.out (by simp [codec_Split.j1])
     | succ kj8 =>
      have H := HA.out
      clear HA
      simp only [codec_Split.j1] at H
      replace H := Option.bind_eq_some_iff.mp H
      obtain ⟨⟨t122, t123, t124⟩, A140, H⟩ := H
      try dsimp only at H
      have A14 := Aside0.mk A140
      clear A140
      have HC15 := Aside0.mk H
      clear H
      go_upto_if 55 with (first | ((with_reducible refine gate_callee (f := 123) rfl ?_); refine goA (some 44) Try.func123 (lead_Run.calls kj8 x1_8 (wrap64 (a0 - 1)) t122 t123 t124 _ A14.out) ?_; intro w16 hb; replace BK115 := bkB BK115 hb; replace BK119 := bkB BK119 hb; replace HB := hbS hb; clear hb; (try simp only [errW_none, errW_some]); have hnb17 := NB119_115.out; have hnc17 := NB115_119.out; obtain ⟨z18_0, z18_1, z18_2, z18_3, z18_4, z18_5, z18_6, z18_7, y18_0, y18_1, y18_2, y18_3, y18_4, y18_5, y18_6, y18_7⟩ := cz8 BK119))
      (try simp only [Act.put, List.setIfInBounds_toArray, List.set_cons_zero, List.set_cons_succ])
      go_cut [] (fun wc => ∃ (kq : Nat) (x120003_14 : Int), Aside0 (codec_Split.j2 kq x1_8 (wrap64 (a0 - 1)) x120000_8 t122 t123 x120003_14 0 0 0 0 = some (r1, r2, r3, r4, r5, r6, r7, r8, r9)) ∧ Aside0 (kq ≤ kj8) ∧ Aside0 (wc.heap[gb115]? = some (.cells #[.bool false, .bool false, .int .i64 0, .int .i64 0, .int .i64 0, .int .i64 0, .int .i64 0, .int .u64 0] 131 (0, 0))) ∧ Aside0 (wc.heap[gb119]? = some (.cells #[.bool x120000_8, .bool t122, .int .i64 t123, .int .i64 x120003_14, .int .i64 0, .int .i64 0, .int .i64 0, .int .u64 0] 131 (0, 0))) ∧ Aside0 (Below w.heap.size w wc))
      case first =>
       have H := HC15.out
       clear HC15
       by_cases c19 : t122 = true
       ·subst c19
        rw [if_pos rfl] at H
        have H' := Aside0.mk H
        clear H
        have hnb20 := NB119_115.out
        have hnc20 := NB115_119.out
        obtain ⟨z21_0, z21_1, z21_2, z21_3, z21_4, z21_5, z21_6, z21_7, y21_0, y21_1, y21_2, y21_3, y21_4, y21_5, y21_6, y21_7⟩ := cz8 BK119
        go_wp2
        go_meet
        case rel => exact ⟨_, (wrap64 (t123 - 1)), H', ⟨by have := HJ3.out; have := HJ8.out; first | omega | exact Nat.le_refl _⟩, ⟨bkT BK115⟩, ⟨bkT BK119⟩, ⟨hbT⟩⟩
       ·replace c19 := Bool.eq_false_iff.mpr c19
        subst c19
        rw [if_neg (show ¬ (false = true) by decide)] at H
        have H' := Aside0.mk H
        clear H
        go_wp2
        go_meet
        case rel => exact ⟨_, (wrap64 (-t123)), H', ⟨by have := HJ3.out; have := HJ8.out; first | omega | exact Nat.le_refl _⟩, ⟨bkT BK115⟩, ⟨bkT BK119⟩, ⟨hbT⟩⟩
      case rest =>
       clear HC15
       try clear z18_0 z18_1 z18_2 z18_3 z18_4 z18_5 z18_6 z18_7 y18_0 y18_1 y18_2 y18_3 y18_4 y18_5 y18_6 y18_7
       obtain ⟨kq, x120003_14, HA, HJ14, BK115, BK119, HB⟩ := hcut
       cases kq with
       | zero => exact absurd HA.out (by simp [codec_Split.j2])
       | succ kj14 =>
        have H := HA.out
        clear HA
        simp only [codec_Split.j2] at H
        obtain ⟨ji22, hji22⟩ : ∃ j_ : Int, (mx (wrap64 ((wrap64 ((wrap64 (a0 - 1)) - t123)) - 1)) 0) = j_ := ⟨_, rfl⟩
        replace H : ((lead_Field.f x1_8 (wrap64 ((ji22) - (mn (ji22) 2))) (mn (ji22) 2)).bind fun bt125 => (if 0 ≤ (wrap64 (2 - (mn (ji22) 2))) then ((lead_Field.f x1_8 0 (wrap64 ((ji22) - (mn (ji22) 2)))).bind fun bt127 => (some (x120000_8, t122, t123, x120003_14, mn (ji22) 2, shl .i64 (wrap64 (bt125.1)) (wrap64 (2 - (mn (ji22) 2))), wrap64 ((ji22) - (mn (ji22) 2)), bt127.1, none))) else (none))) = some (r1, r2, r3, r4, r5, r6, r7, r8, r9) := by first | (rw [hji22] at H; exact H) | (simp only [hji22] at H ⊢; exact H)
        have hji22_ : (if (wrap64 ((wrap64 ((wrap64 (a0 - 1)) - t123)) - 1)) < 0 then 0 else (wrap64 ((wrap64 ((wrap64 (a0 - 1)) - t123)) - 1))) = ji22 := hji22
        obtain ⟨ji23, hji23⟩ : ∃ j_ : Int, (mn (ji22) 2) = j_ := ⟨_, rfl⟩
        replace H : ((lead_Field.f x1_8 (wrap64 ((ji22) - (ji23))) (ji23)).bind fun bt125 => (if 0 ≤ (wrap64 (2 - (ji23))) then ((lead_Field.f x1_8 0 (wrap64 ((ji22) - (ji23)))).bind fun bt127 => (some (x120000_8, t122, t123, x120003_14, ji23, shl .i64 (wrap64 (bt125.1)) (wrap64 (2 - (ji23))), wrap64 ((ji22) - (ji23)), bt127.1, none))) else (none))) = some (r1, r2, r3, r4, r5, r6, r7, r8, r9) := by first | (rw [hji23] at H; exact H) | (simp only [hji23] at H ⊢; exact H)
        have hji23_ : (if 2 < (ji22) then 2 else (ji22)) = ji23 := hji23
        replace H := Option.bind_eq_some_iff.mp H
        obtain ⟨⟨t125, t126⟩, A240, H⟩ := H
        try dsimp only at H
        have A24 := Aside0.mk A240
        clear A240
        obtain ⟨ji25, hji25⟩ : ∃ j_ : Int, (wrap64 (2 - (ji23))) = j_ := ⟨_, rfl⟩
        replace H : (if 0 ≤ (ji25) then ((lead_Field.f x1_8 0 (wrap64 ((ji22) - (ji23)))).bind fun bt127 => (some (x120000_8, t122, t123, x120003_14, ji23, shl .i64 (wrap64 (t125)) (ji25), wrap64 ((ji22) - (ji23)), bt127.1, none))) else (none)) = some (r1, r2, r3, r4, r5, r6, r7, r8, r9) := by first | (rw [hji25] at H; exact H) | (simp only [hji25] at H ⊢; exact H)
        (try rw [hji25] at A24)
        have hji25w : (IntKind.i64.wrap (2 - (ji23))) = ji25 := (i64_w _).trans hji25
        by_cases c26 : 0 ≤ (ji25)
        ·rw [if_pos c26] at H
         have c26b0 := eq_true c26
         have c26b1 : decide (0 ≤ (ji25)) = true := decide_eq_true c26
         clear c26
         obtain ⟨ji27, hji27⟩ : ∃ j_ : Int, (shl .i64 (wrap64 (t125)) (ji25)) = j_ := ⟨_, rfl⟩
         replace H : ((lead_Field.f x1_8 0 (wrap64 ((ji22) - (ji23)))).bind fun bt127 => (some (x120000_8, t122, t123, x120003_14, ji23, ji27, wrap64 ((ji22) - (ji23)), bt127.1, none))) = some (r1, r2, r3, r4, r5, r6, r7, r8, r9) := by first | (rw [hji27] at H; exact H) | (simp only [hji27] at H ⊢; exact H)
         (try rw [hji27] at A24)
         have hji27_ : (IntKind.i64.wrap ((wrap64 (t125)) * 2 ^ min (ji25).toNat 64)) = ji27 := hji27
         have hji27z : (ji25) ≤ 64 → (IntKind.i64.wrap ((wrap64 (t125)) * 2 ^ (ji25).toNat)) = ji27 := shl_small hji27
         have hji27y : (wrap64 ((wrap64 (t125)) * 2 ^ min (ji25).toNat 64)) = ji27 := (i64_w _).symm.trans hji27_
         have hji27x : (ji25) ≤ 64 → (wrap64 ((wrap64 (t125)) * 2 ^ (ji25).toNat)) = ji27 := fun h_ => (i64_w _).symm.trans (hji27z h_)
         replace H := Option.bind_eq_some_iff.mp H
         obtain ⟨⟨t127, t128⟩, A280, H⟩ := H
         try dsimp only at H
         have A28 := Aside0.mk A280
         clear A280
         simp only [Option.some.injEq, Prod.mk.injEq] at H
         obtain ⟨rfl, rfl, rfl, rfl, rfl, rfl, rfl, rfl, rfl⟩ := H
         have hnb29 := NB119_115.out
         have hnc29 := NB115_119.out
         obtain ⟨z30_0, z30_1, z30_2, z30_3, z30_4, z30_5, z30_6, z30_7, y30_0, y30_1, y30_2, y30_3, y30_4, y30_5, y30_6, y30_7⟩ := cz8 BK119
         go_wp2_with (first | ((with_reducible refine gate_callee (f := 124) rfl ?_); refine goesL_ (some 78) rfl rfl Try.func124 (by kernel_rfl) rfl #[.int .u64 x1_8, .int .i64 (wrap64 ((ji22) - (ji23))), .int .i64 ji23] rfl (by (try simp only [List.map_toArray, List.map_cons, List.map_nil]); first | done | (simp only [hji22, hji23]; rfl) | rfl | (simp only [List.length_drop, List.length_take]; rfl)) ?_; (with_reducible refine (lead_Field.calls x1_8 (wrap64 ((ji22) - (ji23))) ji23 t125 t126 _ A24.out).mono ?_); rintro e w' ⟨rfl, ⟨nd, rfl⟩⟩; refine ⟨_, rfl, ?_⟩; (try simp only [errW_none, errW_some])) | ((with_reducible refine gate_callee (f := 124) rfl ?_); refine goesL_ (some 93) rfl rfl Try.func124 (by kernel_rfl) rfl #[.int .u64 x1_8, .int .i64 0, .int .i64 (wrap64 ((ji22) - (ji23)))] rfl (by (try simp only [List.map_toArray, List.map_cons, List.map_nil]); first | done | (simp only [hji22, hji23]; rfl) | rfl | (simp only [List.length_drop, List.length_take]; rfl)) ?_; (with_reducible refine (lead_Field.calls x1_8 0 (wrap64 ((ji22) - (ji23))) t127 t128 _ A28.out).mono ?_); rintro e w' ⟨rfl, ⟨nd, rfl⟩⟩; refine ⟨_, rfl, ?_⟩; (try simp only [errW_none, errW_some]); obtain ⟨z31_0, z31_1, z31_2, z31_3, z31_4, z31_5, z31_6, z31_7, y31_0, y31_1, y31_2, y31_3, y31_4, y31_5, y31_6, y31_7⟩ := cz8 BK115))
         refine bodyPost_ret (results_ct rfl _ _ gb115 131 #[.bool x120000_8, .bool t122, .int .i64 t123, .int .i64 x120003_14, .int .i64 ji23, .int .i64 ji27, .int .i64 (wrap64 ((ji22) - (ji23))), .int .u64 t127] (0, 0) _ rfl (bkT BK115) Try.underlying131 rfl (by kernel_rfl)) rfl ?_
         exact ⟨by first | rfl | (simp [errW_none, errW_some] <;> rfl) | (simp only [← hji22, ← hji23, ← hji25, ← hji27]; first | rfl | (simp [errW_none, errW_some] <;> rfl)) | (simp [*, errW_none, errW_some] <;> rfl), hbT⟩
        ·rw [if_neg c26] at H
         exact absurd H (by simp)
end Go.Proofs.Ytnlbfomlfhigcaa.Q
namespace Go.Proofs.Ytnlbfomlfhigcaa.Q
open Go.RowKit Go.Proofs.YtnlbfomlfhigcaaW.PrintWords Go.Proofs.YtnlbfomlfhigcaaW.PrintLast Go.Proofs.YtnlbfomlfhigcaaW.PrintMore
attribute [local go_sem] max2_int min2_int max_two min_two max_three min_three max_four min_four
set_option linter.unusedVariables false
set_option linter.unusedSimpArgs false
def codec_Decode.f (k : Nat) (a0 : Int) (a1 : Int) : Option (Int × Bool × Int × Int × Option Int) := (shape_Kind.f a0 a1).bind fun bt130 => (if bt130.2.isNone = true then (if bt130.1 = 1 then ((codec_Split.f k a0 a1).bind fun bt133 => (if 0 ≤ (wrap64 (63 - bt133.2.2.2.2.2.2.1)) then (some (bt130.1, bt133.1, wrap64 ((wrap64 (4 * bt133.2.2.2.1)) + bt133.2.2.2.2.2.1), Go.bits .or .u64 9223372036854775808 (shl .u64 bt133.2.2.2.2.2.2.2.1 (wrap64 (63 - bt133.2.2.2.2.2.2.1))), none)) else (none))) else (some (bt130.1, false, 0, 0, none))) else (some (bt130.1, false, 0, 0, some (bt130.2.getD 0))))
def codec_Decode.T5 : Bool × List (List Nat × List Nat) := (true, [([], []), ([], []), ([1], [1]), ([], []), ([3], [3]), ([4], [4]), ([], []), ([6], [6]), ([5, 7], [5, 7]), ([], []), ([9], [9]), ([], []), ([11], [11]), ([12], [12]), ([10, 13], [10, 13]), ([14], [14]), ([0, 2, 8, 15], [0, 2, 8, 15]), ([16, 0, 1, 2, 3, 4, 5, 6, 7, 8, 9, 10, 11, 12, 13, 14, 15, 16], [16]), ([17, 0, 1, 2, 3, 4, 5, 6, 7, 8, 9, 10, 11, 12, 13, 14, 15, 16, 17], [])])
def codec_Decode.B5 : List Nat := [0, 0, 2, 0, 8, 24, 0, 64, 248, 0, 512, 0, 2048, 6144, 15872, 32256, 65535, 131071, 262143]
theorem codec_Decode.tab5 : rtab .any (opsOf Try.f72 5) = codec_Decode.T5 := by kernel_rfl
theorem codec_Decode.bits5 : waitsOk codec_Decode.T5.2 codec_Decode.B5 = true := by kernel_rfl
set_option maxHeartbeats 8000000 in
set_option maxRecDepth 100000 in
theorem codec_Decode.calls (k : Nat) (a0 : Int) (a1 : Int) (r1 : Int) (r2 : Bool) (r3 : Int) (r4 : Int) (r5 : Option Int) (w : World) (h : codec_Decode.f k a0 a1 = some (r1, r2, r3, r4, r5)) :
  Calls Try.prog 72 #[.int .i64 a0, .int .u64 a1] w fun e w' => e = .returned (.tuple #[.agg #[.int .i64 r1, .bool r2, .int .i64 r3, .int .u64 r4], errW r5]) ∧ Below w.heap.size w w' := by
 have hu103 := Try.underlying103
 have hu131 := Try.underlying131
 have hu43 := Try.underlying43
 have hu82 := Try.underlying82
 have HB := Aside0.mk (Below.refl w.heap.size w)
 have H := h
 clear h
 unfold codec_Decode.f at H
 replace H := Option.bind_eq_some_iff.mp H
 obtain ⟨⟨t130, t131⟩, A30, H⟩ := H
 try dsimp only at H
 have A3 := Aside0.mk A30
 clear A30
 rcases t131 with _ | q132
 ·rw [if_pos (show (none : Option Int).isNone = true by rfl)] at H
  try simp only [errW_none, errW_some]
  by_cases c4 : t130 = 1
  ·rw [if_pos c4] at H
   obtain ⟨c4b0, c4b1⟩ := eqY c4
   clear c4
   replace H := Option.bind_eq_some_iff.mp H
   obtain ⟨⟨t133, t134, t135, t136, t137, t138, t139, t140, t141⟩, A50, H⟩ := H
   try dsimp only at H
   have A5 := Aside0.mk A50
   clear A50
   obtain ⟨ji6, hji6⟩ : ∃ j_ : Int, (wrap64 (63 - t139)) = j_ := ⟨_, rfl⟩
   replace H : (if 0 ≤ (ji6) then (some (t130, t133, wrap64 ((wrap64 (4 * t136)) + t138), Go.bits .or .u64 9223372036854775808 (shl .u64 t140 (ji6)), none)) else (none)) = some (r1, r2, r3, r4, r5) := by first | (rw [hji6] at H; exact H) | (simp only [hji6] at H ⊢; exact H)
   (try rw [hji6] at A3)
   (try rw [hji6] at A5)
   have hji6w : (IntKind.i64.wrap (63 - t139)) = ji6 := (i64_w _).trans hji6
   by_cases c7 : 0 ≤ (ji6)
   ·rw [if_pos c7] at H
    have c7b0 := eq_true c7
    have c7b1 : decide (0 ≤ (ji6)) = true := decide_eq_true c7
    clear c7
    obtain ⟨ji8, hji8⟩ : ∃ j_ : Int, (shl .u64 t140 (ji6)) = j_ := ⟨_, rfl⟩
    replace H : (some (t130, t133, wrap64 ((wrap64 (4 * t136)) + t138), Go.bits .or .u64 9223372036854775808 (ji8), none)) = some (r1, r2, r3, r4, r5) := by first | (rw [hji8] at H; exact H) | (simp only [hji8] at H ⊢; exact H)
    (try rw [hji8] at A3)
    (try rw [hji8] at A5)
    have hji8_ : (IntKind.u64.wrap (t140 * 2 ^ min (ji6).toNat 64)) = ji8 := hji8
    have hji8z : (ji6) ≤ 64 → (IntKind.u64.wrap (t140 * 2 ^ (ji6).toNat)) = ji8 := shl_small hji8
    simp only [Option.some.injEq, Prod.mk.injEq] at H
    obtain ⟨rfl, rfl, rfl, rfl, rfl⟩ := H
    go_enter Try.func72, Try.ntmps72
    try go_wp2_with (first | ((with_reducible refine gate_dst (N := 4) rfl ?_); refine boxA 4 (#[.int .i64 0, .bool false, .int .i64 0, .int .u64 0]) 103 ?_; intro gb129 hg w9 BK129 hb; have GW129 := geT hg; have GE129 := GW129; replace HB := hbS hb; clear hb hg) | ((with_reducible refine gate_callee (f := 70) rfl ?_); refine goesL_ (some 13) rfl rfl Try.func70 (by kernel_rfl) rfl #[.int .i64 a0, .int .u64 a1] rfl (by (try simp only [List.map_toArray, List.map_cons, List.map_nil]); first | done | rfl | (simp only [List.length_drop, List.length_take]; rfl)) ?_; (with_reducible refine (shape_Kind.calls a0 a1 t130 none _ A3.out).mono ?_); rintro e w' ⟨rfl, ⟨nd, rfl⟩⟩; refine ⟨_, rfl, ?_⟩; (try simp only [errW_none, errW_some]); (try (rw [drewN_self w9]; generalize hq_ : World.drewN w9 _ = w9; have n0_ : Aside0 (w9.heap[gb129]? = some (.cells #[.int .i64 0, .bool false, .int .i64 0, .int .u64 0] 103 (0, 0))) := ⟨by rw [← hq_]; exact (bkT BK129)⟩; have n1_ : Aside0 (Below w.heap.size w w9) := ⟨by rw [← hq_]; exact hbT⟩; clear BK129 HB hq_; have BK129 := n0_; have HB := n1_; clear n0_ n1_))) | ((with_reducible refine gate_callee (f := 97) rfl ?_); refine goA (some 28) Try.func97 (codec_Split.calls k a0 a1 t133 t134 t135 t136 t137 t138 t139 t140 t141 _ A5.out) ?_; intro w10 hb; replace BK129 := bkB BK129 hb; replace HB := hbS hb; clear hb; (try simp only [errW_none, errW_some])) | ((with_reducible refine gate_dst (N := 8) rfl ?_); refine boxA 8 (#[.bool false, .bool false, .int .i64 0, .int .i64 0, .int .i64 0, .int .i64 0, .int .i64 0, .int .u64 0]) 131 ?_; intro gb142 hg w11 BK142 hb; have GW142 := geT hg; have GE142 := GW142; obtain ⟨NB129_142, NB142_129⟩ := neT BK129 hg; replace BK129 := bkB BK129 hb; replace HB := hbS hb; clear hb hg; have hnb12 := NB142_129.out; have hnc12 := NB129_142.out; obtain ⟨z13_0, z13_1, z13_2, z13_3, z13_4, z13_5, z13_6, z13_7, y13_0, y13_1, y13_2, y13_3, y13_4, y13_5, y13_6, y13_7⟩ := cz8 BK142))
    have n0_ : Aside0 (((((((((w11.setCell ⟨gb142, 0, none⟩ (.bool t133)).setCell ⟨gb142, 1, none⟩ (.bool t134)).setCell ⟨gb142, 2, none⟩ (.int .i64 t135)).setCell ⟨gb142, 3, none⟩ (.int .i64 t136)).setCell ⟨gb142, 4, none⟩ (.int .i64 t137)).setCell ⟨gb142, 5, none⟩ (.int .i64 t138)).setCell ⟨gb142, 6, none⟩ (.int .i64 t139)).setCell ⟨gb142, 7, none⟩ (.int .u64 t140)).heap[gb129]? = some (.cells #[.int .i64 0, .bool false, .int .i64 0, .int .u64 0] 103 (0, 0))) := ⟨bkT BK129⟩
    have n1_ : Aside0 (((((((((w11.setCell ⟨gb142, 0, none⟩ (.bool t133)).setCell ⟨gb142, 1, none⟩ (.bool t134)).setCell ⟨gb142, 2, none⟩ (.int .i64 t135)).setCell ⟨gb142, 3, none⟩ (.int .i64 t136)).setCell ⟨gb142, 4, none⟩ (.int .i64 t137)).setCell ⟨gb142, 5, none⟩ (.int .i64 t138)).setCell ⟨gb142, 6, none⟩ (.int .i64 t139)).setCell ⟨gb142, 7, none⟩ (.int .u64 t140)).heap[gb142]? = some (.cells #[.bool t133, .bool t134, .int .i64 t135, .int .i64 t136, .int .i64 t137, .int .i64 t138, .int .i64 t139, .int .u64 t140] 131 (0, 0))) := ⟨bkT BK142⟩
    have n2_ : Aside0 (Below w.heap.size w ((((((((w11.setCell ⟨gb142, 0, none⟩ (.bool t133)).setCell ⟨gb142, 1, none⟩ (.bool t134)).setCell ⟨gb142, 2, none⟩ (.int .i64 t135)).setCell ⟨gb142, 3, none⟩ (.int .i64 t136)).setCell ⟨gb142, 4, none⟩ (.int .i64 t137)).setCell ⟨gb142, 5, none⟩ (.int .i64 t138)).setCell ⟨gb142, 6, none⟩ (.int .i64 t139)).setCell ⟨gb142, 7, none⟩ (.int .u64 t140))) := ⟨hbT⟩
    (try clear BK129)
    (try clear BK142)
    (try clear HB)
    generalize ((((((((w11.setCell ⟨gb142, 0, none⟩ (.bool t133)).setCell ⟨gb142, 1, none⟩ (.bool t134)).setCell ⟨gb142, 2, none⟩ (.int .i64 t135)).setCell ⟨gb142, 3, none⟩ (.int .i64 t136)).setCell ⟨gb142, 4, none⟩ (.int .i64 t137)).setCell ⟨gb142, 5, none⟩ (.int .i64 t138)).setCell ⟨gb142, 6, none⟩ (.int .i64 t139)).setCell ⟨gb142, 7, none⟩ (.int .u64 t140)) = w14 at n0_ n1_ n2_ ⊢
    have BK129 := n0_
    have BK142 := n1_
    have HB := n2_
    clear n0_ n1_ n2_
    have n0_ := Aside0.mk (blk_drew BK129.out)
    have n1_ := Aside0.mk (blk_drew BK142.out)
    have n2_ := Aside0.mk (below_drew1 HB.out)
    clear BK129
    clear BK142
    clear HB
    have BK129 := n0_
    have BK142 := n1_
    have HB := n2_
    clear n0_ n1_ n2_
    refine start_ (n := 19) (S := fun w' => w'.cell? ⟨gb142, 0, none⟩ = some (.bool t133) ∧ w'.cell? ⟨gb142, 1, none⟩ = some (.bool t134) ∧ w'.cell? ⟨gb142, 2, none⟩ = some (.int .i64 t135) ∧ w'.cell? ⟨gb142, 3, none⟩ = some (.int .i64 t136) ∧ w'.cell? ⟨gb142, 4, none⟩ = some (.int .i64 t137) ∧ w'.cell? ⟨gb142, 5, none⟩ = some (.int .i64 t138) ∧ w'.cell? ⟨gb142, 6, none⟩ = some (.int .i64 t139) ∧ w'.cell? ⟨gb142, 7, none⟩ = some (.int .u64 t140)) (ds := []) #[false, false, false, false, false, false, false, false, false, false, false, false, false, false, false, false, false, false, false] (by kernel_rfl) rfl rfl ⟨(blk_cell BK142.out 0).trans rfl, (blk_cell BK142.out 1).trans rfl, (blk_cell BK142.out 2).trans rfl, (blk_cell BK142.out 3).trans rfl, (blk_cell BK142.out 4).trans rfl, (blk_cell BK142.out 5).trans rfl, (blk_cell BK142.out 6).trans rfl, (blk_cell BK142.out 7).trans rfl⟩ (fun hHeld => ?_); refine with_tabW codec_Decode.tab5 codec_Decode.bits5 (fun HT_ HW_ => ?_)
    generalize w14.drew = w15 at BK129 BK142 HB hHeld ⊢
    refine pure_ (i := 0) (N := some 31) (v := ?_) (a' := ?_) #[true, false, false, false, false, false, false, false, false, false, false, false, false, false, false, false, false, false, false] rfl rfl (any_of HT_.out (by kernel_rfl)) (fun _ _ _ h => h) (Or.inl ⟨by rfl, ?_⟩) ?_ ?_
    rotate_left
    ·intro w'
     go_simp
     with_reducible rfl
    rotate_left
    ·simp only [Act.put, List.setIfInBounds_toArray, List.set_cons_zero, List.set_cons_succ, i64_w, i32_w]
     rfl
    refine pure_ (i := 1) (N := some 32) (v := ?_) (a' := ?_) #[true, true, false, false, false, false, false, false, false, false, false, false, false, false, false, false, false, false, false] rfl rfl (any_of HT_.out (by kernel_rfl)) (fun _ _ _ h => h) (Or.inl ⟨by rfl, ?_⟩) ?_ ?_
    rotate_left
    ·intro w'
     go_simp
     with_reducible rfl
    rotate_left
    ·simp only [Act.put, List.setIfInBounds_toArray, List.set_cons_zero, List.set_cons_succ, i64_w, i32_w]
     rfl
    refine pure_ (i := 3) (N := some 34) (v := ?_) (a' := ?_) #[true, true, false, true, false, false, false, false, false, false, false, false, false, false, false, false, false, false, false] rfl rfl (any_of HT_.out (by kernel_rfl)) (fun _ _ _ h => h) (Or.inl ⟨by rfl, ?_⟩) ?_ ?_
    rotate_left
    ·intro w'
     go_simp
     with_reducible rfl
    rotate_left
    ·simp only [Act.put, List.setIfInBounds_toArray, List.set_cons_zero, List.set_cons_succ, i64_w, i32_w]
     rfl
    refine pure_ (i := 6) (N := some 37) (v := ?_) (a' := ?_) #[true, true, false, true, false, false, true, false, false, false, false, false, false, false, false, false, false, false, false] rfl rfl (any_of HT_.out (by kernel_rfl)) (fun _ _ _ h => h) (Or.inl ⟨by rfl, ?_⟩) ?_ ?_
    rotate_left
    ·intro w'
     go_simp
     with_reducible rfl
    rotate_left
    ·simp only [Act.put, List.setIfInBounds_toArray, List.set_cons_zero, List.set_cons_succ, i64_w, i32_w]
     rfl
    refine pure_ (i := 9) (N := some 40) (v := ?_) (a' := ?_) #[true, true, false, true, false, false, true, false, false, true, false, false, false, false, false, false, false, false, false] rfl rfl (any_of HT_.out (by kernel_rfl)) (fun _ _ _ h => h) (Or.inl ⟨by rfl, ?_⟩) ?_ ?_
    rotate_left
    ·intro w'
     go_simp
     with_reducible rfl
    rotate_left
    ·simp only [Act.put, List.setIfInBounds_toArray, List.set_cons_zero, List.set_cons_succ, i64_w, i32_w]
     rfl
    refine pure_ (i := 11) (N := some 42) (v := ?_) (a' := ?_) #[true, true, false, true, false, false, true, false, false, true, false, true, false, false, false, false, false, false, false] rfl rfl (any_of HT_.out (by kernel_rfl)) (fun _ _ _ h => h) (Or.inl ⟨by rfl, ?_⟩) ?_ ?_
    rotate_left
    ·intro w'
     go_simp
     with_reducible rfl
    rotate_left
    ·simp only [Act.put, List.setIfInBounds_toArray, List.set_cons_zero, List.set_cons_succ, i64_w, i32_w]
     rfl
    refine take_ (i := 2) (N := some 33) (v := ?_) (a' := ?_) #[true, true, true, true, false, false, true, false, false, true, false, true, false, false, false, false, false, false, false] rfl rfl (take_ofW HT_.out HW_.out (by kernel_rfl)) (fun _ _ _ h => h) (Or.inl ⟨by rfl, ?_⟩) hHeld ?_ ?_
    rotate_left
    ·rintro w' ⟨s0, s1, s2, s3, s4, s5, s6, s7⟩
     go_simp
     with_reducible rfl
    rotate_left
    ·simp only [Act.put, List.setIfInBounds_toArray, List.set_cons_zero, List.set_cons_succ, i64_w, i32_w]
     rfl
    refine take_ (i := 4) (N := some 35) (v := ?_) (a' := ?_) #[true, true, true, true, true, false, true, false, false, true, false, true, false, false, false, false, false, false, false] rfl rfl (take_ofW HT_.out HW_.out (by kernel_rfl)) (fun _ _ _ h => h) (Or.inl ⟨by rfl, ?_⟩) hHeld ?_ ?_
    rotate_left
    ·rintro w' ⟨s0, s1, s2, s3, s4, s5, s6, s7⟩
     go_simp
     with_reducible rfl
    rotate_left
    ·simp only [Act.put, List.setIfInBounds_toArray, List.set_cons_zero, List.set_cons_succ, i64_w, i32_w]
     rfl
    refine pure_ (i := 5) (N := some 36) (v := ?_) (a' := ?_) #[true, true, true, true, true, true, true, false, false, true, false, true, false, false, false, false, false, false, false] rfl rfl (any_of HT_.out (by kernel_rfl)) (fun _ _ _ h => h) (Or.inl ⟨by rfl, ?_⟩) ?_ ?_
    rotate_left
    ·intro w'
     go_simp
     with_reducible rfl
    rotate_left
    ·simp only [Act.put, List.setIfInBounds_toArray, List.set_cons_zero, List.set_cons_succ, i64_w, i32_w]
     rfl
    refine take_ (i := 7) (N := some 38) (v := ?_) (a' := ?_) #[true, true, true, true, true, true, true, true, false, true, false, true, false, false, false, false, false, false, false] rfl rfl (take_ofW HT_.out HW_.out (by kernel_rfl)) (fun _ _ _ h => h) (Or.inl ⟨by rfl, ?_⟩) hHeld ?_ ?_
    rotate_left
    ·rintro w' ⟨s0, s1, s2, s3, s4, s5, s6, s7⟩
     go_simp
     with_reducible rfl
    rotate_left
    ·simp only [Act.put, List.setIfInBounds_toArray, List.set_cons_zero, List.set_cons_succ, i64_w, i32_w]
     rfl
    refine pure_ (i := 8) (N := some 39) (v := ?_) (a' := ?_) #[true, true, true, true, true, true, true, true, true, true, false, true, false, false, false, false, false, false, false] rfl rfl (any_of HT_.out (by kernel_rfl)) (fun _ _ _ h => h) (Or.inl ⟨by rfl, ?_⟩) ?_ ?_
    rotate_left
    ·intro w'
     go_simp
     with_reducible rfl
    rotate_left
    ·simp only [Act.put, List.setIfInBounds_toArray, List.set_cons_zero, List.set_cons_succ, i64_w, i32_w]
     rfl
    refine take_ (i := 10) (N := some 41) (v := ?_) (a' := ?_) #[true, true, true, true, true, true, true, true, true, true, true, true, false, false, false, false, false, false, false] rfl rfl (take_ofW HT_.out HW_.out (by kernel_rfl)) (fun _ _ _ h => h) (Or.inl ⟨by rfl, ?_⟩) hHeld ?_ ?_
    rotate_left
    ·rintro w' ⟨s0, s1, s2, s3, s4, s5, s6, s7⟩
     go_simp
     with_reducible rfl
    rotate_left
    ·simp only [Act.put, List.setIfInBounds_toArray, List.set_cons_zero, List.set_cons_succ, i64_w, i32_w]
     rfl
    refine take_ (i := 12) (N := some 43) (v := ?_) (a' := ?_) #[true, true, true, true, true, true, true, true, true, true, true, true, true, false, false, false, false, false, false] rfl rfl (take_ofW HT_.out HW_.out (by kernel_rfl)) (fun _ _ _ h => h) (Or.inl ⟨by rfl, ?_⟩) hHeld ?_ ?_
    rotate_left
    ·rintro w' ⟨s0, s1, s2, s3, s4, s5, s6, s7⟩
     go_simp
     with_reducible rfl
    rotate_left
    ·simp only [Act.put, List.setIfInBounds_toArray, List.set_cons_zero, List.set_cons_succ, i64_w, i32_w]
     rfl
    refine pure_ (i := 13) (N := some 44) (v := ?_) (a' := ?_) #[true, true, true, true, true, true, true, true, true, true, true, true, true, true, false, false, false, false, false] rfl rfl (any_of HT_.out (by kernel_rfl)) (fun _ _ _ h => h) (Or.inl ⟨by rfl, ?_⟩) ?_ ?_
    rotate_left
    ·intro w'
     go_simp
     with_reducible rfl
    rotate_left
    ·simp only [Act.put, List.setIfInBounds_toArray, List.set_cons_zero, List.set_cons_succ, i64_w, i32_w]
     rfl
    refine pure_ (i := 14) (N := some 45) (v := ?_) (a' := ?_) #[true, true, true, true, true, true, true, true, true, true, true, true, true, true, true, false, false, false, false] rfl rfl (any_of HT_.out (by kernel_rfl)) (fun _ _ _ h => h) (Or.inl ⟨by rfl, ?_⟩) ?_ ?_
    rotate_left
    ·intro w'
     go_simp
     with_reducible rfl
    rotate_left
    ·simp only [Act.put, List.setIfInBounds_toArray, List.set_cons_zero, List.set_cons_succ, i64_w, i32_w]
     rfl
    refine pure_ (i := 15) (N := some 46) (v := ?_) (a' := ?_) #[true, true, true, true, true, true, true, true, true, true, true, true, true, true, true, true, false, false, false] rfl rfl (any_of HT_.out (by kernel_rfl)) (fun _ _ _ h => h) (Or.inl ⟨by rfl, ?_⟩) ?_ ?_
    rotate_left
    ·intro w'
     go_simp
     with_reducible rfl
    rotate_left
    ·simp only [Act.put, List.setIfInBounds_toArray, List.set_cons_zero, List.set_cons_succ, i64_w, i32_w]
     rfl
    refine pure_ (i := 16) (N := some 47) (v := ?_) (a' := ?_) #[true, true, true, true, true, true, true, true, true, true, true, true, true, true, true, true, true, false, false] rfl rfl (any_of HT_.out (by kernel_rfl)) (fun _ _ _ h => h) (Or.inl ⟨by rfl, ?_⟩) ?_ ?_
    rotate_left
    ·intro w'
     go_simp
     with_reducible rfl
    rotate_left
    ·simp only [Act.put, List.setIfInBounds_toArray, List.set_cons_zero, List.set_cons_succ, i64_w, i32_w]
     rfl
    refine one_ (i := 17) (N := none) #[true, true, true, true, true, true, true, true, true, true, true, true, true, true, true, true, true, true, false] rfl rfl (one_of HT_.out (by kernel_rfl)) (by decide) (fun K hK => ?_)
    have hs16 : w15.cell? ⟨gb129, 0, none⟩ = some (.int .i64 0) := (blk_cell BK129.out 0).trans rfl
    have hfs16 := blk_frozen BK129.out 0
    have hns16_1 := NB142_129.out
    have hms16_1 := NB129_142.out
    have hs17 : w15.cell? ⟨gb129, 1, none⟩ = some (.bool false) := (blk_cell BK129.out 1).trans rfl
    have hfs17 := blk_frozen BK129.out 1
    have hns17_1 := NB142_129.out
    have hms17_1 := NB129_142.out
    have hs18 : w15.cell? ⟨gb129, 2, none⟩ = some (.int .i64 0) := (blk_cell BK129.out 2).trans rfl
    have hfs18 := blk_frozen BK129.out 2
    have hns18_1 := NB142_129.out
    have hms18_1 := NB129_142.out
    have hs19 : w15.cell? ⟨gb129, 3, none⟩ = some (.int .u64 0) := (blk_cell BK129.out 3).trans rfl
    have hfs19 := blk_frozen BK129.out 3
    have hns19_1 := NB142_129.out
    have hms19_1 := NB129_142.out
    refine skip_ (w1 := ?_) (by rfl) rfl ?_ ?_
    rotate_left
    ·go_simp
     rfl
    refine hK.out _ _ ⟨((cell_far (p := ⟨gb129, _, none⟩) NB142_129.out _).trans (((cell_far (p := ⟨gb129, _, none⟩) NB142_129.out _).trans (((cell_far (p := ⟨gb129, _, none⟩) NB142_129.out _).trans (((cell_far (p := ⟨gb129, _, none⟩) NB142_129.out _).trans (hHeld.1)))))))), ((cell_far (p := ⟨gb129, _, none⟩) NB142_129.out _).trans (((cell_far (p := ⟨gb129, _, none⟩) NB142_129.out _).trans (((cell_far (p := ⟨gb129, _, none⟩) NB142_129.out _).trans (((cell_far (p := ⟨gb129, _, none⟩) NB142_129.out _).trans (hHeld.2.1)))))))), ((cell_far (p := ⟨gb129, _, none⟩) NB142_129.out _).trans (((cell_far (p := ⟨gb129, _, none⟩) NB142_129.out _).trans (((cell_far (p := ⟨gb129, _, none⟩) NB142_129.out _).trans (((cell_far (p := ⟨gb129, _, none⟩) NB142_129.out _).trans (hHeld.2.2.1)))))))), ((cell_far (p := ⟨gb129, _, none⟩) NB142_129.out _).trans (((cell_far (p := ⟨gb129, _, none⟩) NB142_129.out _).trans (((cell_far (p := ⟨gb129, _, none⟩) NB142_129.out _).trans (((cell_far (p := ⟨gb129, _, none⟩) NB142_129.out _).trans (hHeld.2.2.2.1)))))))), ((cell_far (p := ⟨gb129, _, none⟩) NB142_129.out _).trans (((cell_far (p := ⟨gb129, _, none⟩) NB142_129.out _).trans (((cell_far (p := ⟨gb129, _, none⟩) NB142_129.out _).trans (((cell_far (p := ⟨gb129, _, none⟩) NB142_129.out _).trans (hHeld.2.2.2.2.1)))))))), ((cell_far (p := ⟨gb129, _, none⟩) NB142_129.out _).trans (((cell_far (p := ⟨gb129, _, none⟩) NB142_129.out _).trans (((cell_far (p := ⟨gb129, _, none⟩) NB142_129.out _).trans (((cell_far (p := ⟨gb129, _, none⟩) NB142_129.out _).trans (hHeld.2.2.2.2.2.1)))))))), ((cell_far (p := ⟨gb129, _, none⟩) NB142_129.out _).trans (((cell_far (p := ⟨gb129, _, none⟩) NB142_129.out _).trans (((cell_far (p := ⟨gb129, _, none⟩) NB142_129.out _).trans (((cell_far (p := ⟨gb129, _, none⟩) NB142_129.out _).trans (hHeld.2.2.2.2.2.2.1)))))))), ((cell_far (p := ⟨gb129, _, none⟩) NB142_129.out _).trans (((cell_far (p := ⟨gb129, _, none⟩) NB142_129.out _).trans (((cell_far (p := ⟨gb129, _, none⟩) NB142_129.out _).trans (((cell_far (p := ⟨gb129, _, none⟩) NB142_129.out _).trans (hHeld.2.2.2.2.2.2.2))))))))⟩ (fun hHeld => ?_)
    clear hK K
    refine pure_ (i := 18) (N := some 5) (v := ?_) (a' := ?_) #[true, true, true, true, true, true, true, true, true, true, true, true, true, true, true, true, true, true, true] rfl rfl (any_of HT_.out (by kernel_rfl)) (fun _ _ _ h => h) (Or.inl ⟨by rfl, ?_⟩) ?_ ?_
    rotate_left
    ·intro w'
     go_simp
     with_reducible rfl
    rotate_left
    ·simp only [Act.put, List.setIfInBounds_toArray, List.set_cons_zero, List.set_cons_succ, i64_w, i32_w]
     rfl
    refine done_ (done_of HT_.out (by kernel_rfl)) ?_
    try go_wp2
    refine bodyPost_ret (results_ct rfl _ _ gb129 103 #[.int .i64 t130, .bool t133, .int .i64 (wrap64 ((wrap64 (4 * t136)) + t138)), .int .u64 (Go.bits .or .u64 9223372036854775808 (ji8))] (0, 0) _ rfl (bkT BK129) Try.underlying103 rfl (by kernel_rfl)) rfl ?_
    exact ⟨by first | rfl | (simp [errW_none, errW_some] <;> rfl) | (simp only [← hji6, ← hji8]; first | rfl | (simp [errW_none, errW_some] <;> rfl)) | (simp [*, errW_none, errW_some] <;> rfl), hbT⟩
   ·rw [if_neg c7] at H
    exact absurd H (by simp)
  ·rw [if_neg c4] at H
   obtain ⟨c4b0, c4b1⟩ := eqN c4
   simp only [Option.some.injEq, Prod.mk.injEq] at H
   obtain ⟨rfl, rfl, rfl, rfl, rfl⟩ := H
   go_enter Try.func72, Try.ntmps72
   go_wp2_with (first | ((with_reducible refine gate_dst (N := 4) rfl ?_); refine boxA 4 (#[.int .i64 0, .bool false, .int .i64 0, .int .u64 0]) 103 ?_; intro gb129 hg w20 BK129 hb; have GW129 := geT hg; have GE129 := GW129; replace HB := hbS hb; clear hb hg) | ((with_reducible refine gate_callee (f := 70) rfl ?_); refine goesL_ (some 13) rfl rfl Try.func70 (by kernel_rfl) rfl #[.int .i64 a0, .int .u64 a1] rfl (by (try simp only [List.map_toArray, List.map_cons, List.map_nil]); first | done | rfl | (simp only [List.length_drop, List.length_take]; rfl)) ?_; (with_reducible refine (shape_Kind.calls a0 a1 t130 none _ A3.out).mono ?_); rintro e w' ⟨rfl, ⟨nd, rfl⟩⟩; refine ⟨_, rfl, ?_⟩; (try simp only [errW_none, errW_some]); (try (rw [drewN_self w20]; generalize hq_ : World.drewN w20 _ = w20; have n0_ : Aside0 (w20.heap[gb129]? = some (.cells #[.int .i64 0, .bool false, .int .i64 0, .int .u64 0] 103 (0, 0))) := ⟨by rw [← hq_]; exact (bkT BK129)⟩; have n1_ : Aside0 (Below w.heap.size w w20) := ⟨by rw [← hq_]; exact hbT⟩; clear BK129 HB hq_; have BK129 := n0_; have HB := n1_; clear n0_ n1_)); obtain ⟨z21_0, z21_1, z21_2, z21_3, y21_0, y21_1, y21_2, y21_3⟩ := cz4 BK129))
   refine bodyPost_ret (results_ct rfl _ _ gb129 103 #[.int .i64 t130, .bool false, .int .i64 0, .int .u64 0] (0, 0) _ rfl (bkT BK129) Try.underlying103 rfl (by kernel_rfl)) rfl ?_
   exact ⟨reT, hbT⟩
 ·rw [if_neg (show ¬ (some q132).isNone = true by simp)] at H
  try simp only [errW_none, errW_some]
  simp only [Option.some.injEq, Prod.mk.injEq] at H
  obtain ⟨rfl, rfl, rfl, rfl, rfl⟩ := H
  go_enter Try.func72, Try.ntmps72
  go_wp2_with (first | ((with_reducible refine gate_dst (N := 4) rfl ?_); refine boxA 4 (#[.int .i64 0, .bool false, .int .i64 0, .int .u64 0]) 103 ?_; intro gb129 hg w22 BK129 hb; have GW129 := geT hg; have GE129 := GW129; replace HB := hbS hb; clear hb hg) | ((with_reducible refine gate_callee (f := 70) rfl ?_); refine goesL_ (some 13) rfl rfl Try.func70 (by kernel_rfl) rfl #[.int .i64 a0, .int .u64 a1] rfl (by (try simp only [List.map_toArray, List.map_cons, List.map_nil]); first | done | rfl | (simp only [List.length_drop, List.length_take]; rfl)) ?_; (with_reducible refine (shape_Kind.calls a0 a1 t130 (some q132) _ A3.out).mono ?_); rintro e w' ⟨rfl, ⟨nd, rfl⟩⟩; refine ⟨_, rfl, ?_⟩; (try simp only [errW_none, errW_some]); (try (rw [drewN_self w22]; generalize hq_ : World.drewN w22 _ = w22; have n0_ : Aside0 (w22.heap[gb129]? = some (.cells #[.int .i64 0, .bool false, .int .i64 0, .int .u64 0] 103 (0, 0))) := ⟨by rw [← hq_]; exact (bkT BK129)⟩; have n1_ : Aside0 (Below w.heap.size w w22) := ⟨by rw [← hq_]; exact hbT⟩; clear BK129 HB hq_; have BK129 := n0_; have HB := n1_; clear n0_ n1_)); obtain ⟨z23_0, z23_1, z23_2, z23_3, y23_0, y23_1, y23_2, y23_3⟩ := cz4 BK129))
  refine bodyPost_ret (results_ct rfl _ _ gb129 103 #[.int .i64 t130, .bool false, .int .i64 0, .int .u64 0] (0, 0) _ rfl (bkT BK129) Try.underlying103 rfl (by kernel_rfl)) rfl ?_
  exact ⟨reT, hbT⟩
end Go.Proofs.Ytnlbfomlfhigcaa.Q
namespace Go.Proofs.Ytnlbfomlfhigcaa.Q
open Go.RowKit Go.Proofs.YtnlbfomlfhigcaaW.PrintWords Go.Proofs.YtnlbfomlfhigcaaW.PrintLast Go.Proofs.YtnlbfomlfhigcaaW.PrintMore
attribute [local go_sem] max2_int min2_int max_two min_two max_three min_three max_four min_four
set_option linter.unusedVariables false
set_option linter.unusedSimpArgs false
def shape_Of.f (a0 : Int) : Option (Int × Int × Int × Int × Int × Option Int) := (shape_is.f a0).bind fun t144 => (if t144 = true then (if 0 ≤ (wrap64 (a0 - 1)) then (some (a0, IntKind.u64.wrap ((shl .u64 1 (wrap64 (a0 - 1))) - 1), 1, shl .u64 1 (wrap64 (a0 - 1)), wrap64 ((wrap64 (4 * a0)) - 8), none)) else (none)) else (some (0, 0, 0, 0, 0, some 2)))
set_option maxHeartbeats 8000000 in
set_option maxRecDepth 100000 in
theorem shape_Of.calls (a0 : Int) (r1 : Int) (r2 : Int) (r3 : Int) (r4 : Int) (r5 : Int) (r6 : Option Int) (w : World) (h : shape_Of.f a0 = some (r1, r2, r3, r4, r5, r6)) :
  Calls Try.prog 87 #[.int .i64 a0] w fun e w' => e = .returned (.tuple #[.agg #[.int .i64 r1, .int .u64 r2, .int .u64 r3, .int .u64 r4, .int .i64 r5], errW r6]) ∧ Below w.heap.size w w' := by
 have hu119 := Try.underlying119
 have hu43 := Try.underlying43
 have hu82 := Try.underlying82
 have HB := Aside0.mk (Below.refl w.heap.size w)
 have H := h
 clear h
 unfold shape_Of.f at H
 replace H := Option.bind_eq_some_iff.mp H
 obtain ⟨t144, A20, H⟩ := H
 try dsimp only at H
 have A2 := Aside0.mk A20
 clear A20
 by_cases c3 : t144 = true
 ·subst c3
  rw [if_pos rfl] at H
  obtain ⟨ji4, hji4⟩ : ∃ j_ : Int, (wrap64 (a0 - 1)) = j_ := ⟨_, rfl⟩
  replace H : (if 0 ≤ (ji4) then (some (a0, IntKind.u64.wrap ((shl .u64 1 (ji4)) - 1), 1, shl .u64 1 (ji4), wrap64 ((wrap64 (4 * a0)) - 8), none)) else (none)) = some (r1, r2, r3, r4, r5, r6) := by first | (rw [hji4] at H; exact H) | (simp only [hji4] at H ⊢; exact H)
  (try rw [hji4] at A2)
  have hji4w : (IntKind.i64.wrap (a0 - 1)) = ji4 := (i64_w _).trans hji4
  by_cases c5 : 0 ≤ (ji4)
  ·rw [if_pos c5] at H
   have c5b0 := eq_true c5
   have c5b1 : decide (0 ≤ (ji4)) = true := decide_eq_true c5
   clear c5
   obtain ⟨ji6, hji6⟩ : ∃ j_ : Int, (shl .u64 1 (ji4)) = j_ := ⟨_, rfl⟩
   replace H : (some (a0, IntKind.u64.wrap ((ji6) - 1), 1, ji6, wrap64 ((wrap64 (4 * a0)) - 8), none)) = some (r1, r2, r3, r4, r5, r6) := by first | (rw [hji6] at H; exact H) | (simp only [hji6] at H ⊢; exact H)
   (try rw [hji6] at A2)
   have hji6_ : (IntKind.u64.wrap (1 * 2 ^ min (ji4).toNat 64)) = ji6 := hji6
   have hji6z : (ji4) ≤ 64 → (IntKind.u64.wrap (1 * 2 ^ (ji4).toNat)) = ji6 := shl_small hji6
   have hji6u : (IntKind.u64.wrap (2 ^ min (ji4).toNat 64)) = ji6 := by have h_ := hji6_; rw [Int.one_mul] at h_; exact h_
   have hji6v : (ji4) ≤ 64 → (IntKind.u64.wrap (2 ^ (ji4).toNat)) = ji6 := fun hle_ => by have h_ := hji6z hle_; rw [Int.one_mul] at h_; exact h_
   simp only [Option.some.injEq, Prod.mk.injEq] at H
   obtain ⟨rfl, rfl, rfl, rfl, rfl, rfl⟩ := H
   go_enter Try.func87, Try.ntmps87
   go_wp2_with (first | ((with_reducible refine gate_dst (N := 2) rfl ?_); refine boxA 2 (#[.int .i64 0, .int .u64 0, .int .u64 0, .int .u64 0, .int .i64 0]) 119 ?_; intro gb143 hg w7 BK143 hb; have GW143 := geT hg; have GE143 := GW143; replace HB := hbS hb; clear hb hg) | ((with_reducible refine gate_callee (f := 108) rfl ?_); refine goesL_ (some 6) rfl rfl Try.func108 (by kernel_rfl) rfl #[.int .i64 a0] rfl (by (try simp only [List.map_toArray, List.map_cons, List.map_nil]); first | done | rfl | (simp only [List.length_drop, List.length_take]; rfl)) ?_; (with_reducible refine (shape_is.calls a0 true _ A2.out).mono ?_); rintro e w' ⟨rfl, ⟨nd, rfl⟩⟩; refine ⟨_, rfl, ?_⟩; (try (rw [drewN_self w7]; generalize hq_ : World.drewN w7 _ = w7; have n0_ : Aside0 (w7.heap[gb143]? = some (.cells #[.int .i64 0, .int .u64 0, .int .u64 0, .int .u64 0, .int .i64 0] 119 (0, 0))) := ⟨by rw [← hq_]; exact (bkT BK143)⟩; have n1_ : Aside0 (Below w.heap.size w w7) := ⟨by rw [← hq_]; exact hbT⟩; clear BK143 HB hq_; have BK143 := n0_; have HB := n1_; clear n0_ n1_)); obtain ⟨z8_0, z8_1, z8_2, z8_3, z8_4, y8_0, y8_1, y8_2, y8_3, y8_4⟩ := cz5 BK143))
   refine bodyPost_ret (results_ct rfl _ _ gb143 119 #[.int .i64 a0, .int .u64 (IntKind.u64.wrap ((ji6) - 1)), .int .u64 1, .int .u64 ji6, .int .i64 (wrap64 ((wrap64 (4 * a0)) - 8))] (0, 0) _ rfl (bkT BK143) Try.underlying119 rfl (by kernel_rfl)) rfl ?_
   exact ⟨by first | rfl | (simp [errW_none, errW_some] <;> rfl) | (simp only [← hji4, ← hji6]; first | rfl | (simp [errW_none, errW_some] <;> rfl)) | (simp [*, errW_none, errW_some] <;> rfl), hbT⟩
  ·rw [if_neg c5] at H
   exact absurd H (by simp)
 ·replace c3 := Bool.eq_false_iff.mpr c3
  subst c3
  rw [if_neg (show ¬ (false = true) by decide)] at H
  simp only [Option.some.injEq, Prod.mk.injEq] at H
  obtain ⟨rfl, rfl, rfl, rfl, rfl, rfl⟩ := H
  go_enter Try.func87, Try.ntmps87
  go_wp2_with (first | ((with_reducible refine gate_dst (N := 2) rfl ?_); refine boxA 2 (#[.int .i64 0, .int .u64 0, .int .u64 0, .int .u64 0, .int .i64 0]) 119 ?_; intro gb143 hg w9 BK143 hb; have GW143 := geT hg; have GE143 := GW143; replace HB := hbS hb; clear hb hg) | ((with_reducible refine gate_callee (f := 108) rfl ?_); refine goesL_ (some 6) rfl rfl Try.func108 (by kernel_rfl) rfl #[.int .i64 a0] rfl (by (try simp only [List.map_toArray, List.map_cons, List.map_nil]); first | done | rfl | (simp only [List.length_drop, List.length_take]; rfl)) ?_; (with_reducible refine (shape_is.calls a0 false _ A2.out).mono ?_); rintro e w' ⟨rfl, ⟨nd, rfl⟩⟩; refine ⟨_, rfl, ?_⟩; (try (rw [drewN_self w9]; generalize hq_ : World.drewN w9 _ = w9; have n0_ : Aside0 (w9.heap[gb143]? = some (.cells #[.int .i64 0, .int .u64 0, .int .u64 0, .int .u64 0, .int .i64 0] 119 (0, 0))) := ⟨by rw [← hq_]; exact (bkT BK143)⟩; have n1_ : Aside0 (Below w.heap.size w w9) := ⟨by rw [← hq_]; exact hbT⟩; clear BK143 HB hq_; have BK143 := n0_; have HB := n1_; clear n0_ n1_)); obtain ⟨z10_0, z10_1, z10_2, z10_3, z10_4, y10_0, y10_1, y10_2, y10_3, y10_4⟩ := cz5 BK143))
  refine bodyPost_ret (results_ct rfl _ _ gb143 119 #[.int .i64 0, .int .u64 0, .int .u64 0, .int .u64 0, .int .i64 0] (0, 0) _ rfl (bkT BK143) Try.underlying119 rfl (by kernel_rfl)) rfl ?_
  exact ⟨reT, hbT⟩
end Go.Proofs.Ytnlbfomlfhigcaa.Q
namespace Go.Proofs.Ytnlbfomlfhigcaa.Q
open Go.RowKit Go.Proofs.YtnlbfomlfhigcaaW.PrintWords Go.Proofs.YtnlbfomlfhigcaaW.PrintLast Go.Proofs.YtnlbfomlfhigcaaW.PrintMore
attribute [local go_sem] max2_int min2_int max_two min_two max_three min_three max_four min_four
set_option linter.unusedVariables false
set_option linter.unusedSimpArgs false
theorem eqA86 (d : Nat) (w : World) (x0 y0 : Int) (x1 y1 : Bool) (x2 y2 : Int) (x3 y3 : Int) (x4 y4 : Int) (x5 y5 : Bool) :
    (Op.equalIn (d + 2) 86 (.agg #[.int .i64 x0, .bool x1, .int .i64 x2, .int .u64 x3, .int .u64 x4, .bool x5]) (.agg #[.int .i64 y0, .bool y1, .int .i64 y2, .int .u64 y3, .int .u64 y4, .bool y5])).run Try.prog w = .ok (x0 == y0 && (x1 == y1 && (x2 == y2 && (x3 == y3 && (x4 == y4 && (x5 == y5)))))) w := by
  refine eqA_of Try.underlying86 (by kernel_rfl) ?_
  refine eqf_cons (by rfl) (by go_simp; rfl) (by go_simp; rfl) (by go_simp) ?_
  refine eqf_cons (by rfl) (by go_simp; rfl) (by go_simp; rfl) (by go_simp) ?_
  refine eqf_cons (by rfl) (by go_simp; rfl) (by go_simp; rfl) (by go_simp) ?_
  refine eqf_cons (by rfl) (by go_simp; rfl) (by go_simp; rfl) (by go_simp) ?_
  refine eqf_cons (by rfl) (by go_simp; rfl) (by go_simp; rfl) (by go_simp) ?_
  exact eqf_last (by rfl) (by go_simp; rfl) (by go_simp; rfl) (by go_simp)
end Go.Proofs.Ytnlbfomlfhigcaa.Q
namespace Go.Proofs.Ytnlbfomlfhigcaa.Q
open Go.RowKit Go.Proofs.YtnlbfomlfhigcaaW.PrintWords Go.Proofs.YtnlbfomlfhigcaaW.PrintLast Go.Proofs.YtnlbfomlfhigcaaW.PrintMore
attribute [local go_sem] max2_int min2_int max_two min_two max_three min_three max_four min_four
set_option linter.unusedVariables false
set_option linter.unusedSimpArgs false
def round_held.f (a0 : Int) : Option (Int) := some (mx (-1099511627776) (mn a0 1099511627776))
set_option maxHeartbeats 8000000 in
set_option maxRecDepth 100000 in
theorem round_held.calls (a0 : Int) (r : Int) (w : World) (h : round_held.f a0 = some r) :
  Calls Try.prog 128 #[.int .i64 a0] w fun e w' => e = .returned (.int .i64 r) ∧ Below w.heap.size w w' := by
 have HB := Aside0.mk (Below.refl w.heap.size w)
 have H := h
 clear h
 unfold round_held.f at H
 obtain ⟨ji2, hji2⟩ : ∃ j_ : Int, (mn a0 1099511627776) = j_ := ⟨_, rfl⟩
 replace H : (some (mx (-1099511627776) (ji2))) = some r := by first | (rw [hji2] at H; exact H) | (simp only [hji2] at H ⊢; exact H)
 (try (have hji2h : ji2 ≤ 1099511627776 := by (rw [← hji2]; unfold mn; (repeat' split) <;> omega)))
 (try (have hji2g : ji2 ≤ 64 := by omega))
 have hji2_ : (if 1099511627776 < a0 then 1099511627776 else a0) = ji2 := hji2
 obtain ⟨ji3, hji3⟩ : ∃ j_ : Int, (mx (-1099511627776) (ji2)) = j_ := ⟨_, rfl⟩
 replace H : (some ji3) = some r := by first | (rw [hji3] at H; exact H) | (simp only [hji3] at H ⊢; exact H)
 have hji3_ : (if (-1099511627776) < (ji2) then (ji2) else (-1099511627776)) = ji3 := hji3
 obtain rfl := Option.some.inj H
 go_enter Try.func128, Try.ntmps128
 go_wp2
 go_ret
 exact ⟨by first | rfl | (simp [errW_none, errW_some] <;> rfl) | (simp only [← hji2, ← hji3]; first | rfl | (simp [errW_none, errW_some] <;> rfl)) | (simp [*, errW_none, errW_some] <;> rfl), hbT⟩
end Go.Proofs.Ytnlbfomlfhigcaa.Q
