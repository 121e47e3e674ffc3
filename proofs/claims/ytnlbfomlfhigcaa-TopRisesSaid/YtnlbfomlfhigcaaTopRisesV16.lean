/- Walks and plain laws that the claim stands on: each theorem named calls says that a call of a function returns what its f computes; the others are plain laws of these f, and the words that the walks use. -/
import Derived.Lib.ItoaNum
import Derived.Test.YtnlbfomlfhigcaaTopRisesV2
import Derived.Test.YtnlbfomlfhigcaaTopRisesV13
import Derived.Test.YtnlbfomlfhigcaaTopRisesV15
import Derived.Test.YtnlbfomlfhigcaaTopRisesV8
import Derived.Test.YtnlbfomlfhigcaaTopRisesV4
import Derived.Test.YtnlbfomlfhigcaaTopRisesV3
namespace Go.Proofs.Ytnlbfomlfhigcaa.Q
open Go.RowKit Go.Proofs.YtnlbfomlfhigcaaW.PrintWords Go.Proofs.YtnlbfomlfhigcaaW.PrintLast Go.Proofs.YtnlbfomlfhigcaaW.PrintMore
attribute [local go_sem] max2_int min2_int max_two min_two max_three min_three max_four min_four
set_option linter.unusedVariables false
set_option linter.unusedSimpArgs false
attribute [local go_sem high] eqErr eqErrNil
mutual
def verniertop_TopRises.j0 : Nat → Int → Int → Int → Int → Int → Int → Int → Int → Int → Int → Int → Bool → Option (Bool)
 | 0, _, _, _, _, _, _, _, _, _, _, _, _ => none
 | k + 1, x0, x1, x2, x3, x4, x12, x14, x16, x18, x20, x22, x127 => if x127 = true then (some false) else ((vernierref05_Power.f k (wrap64 (x0 - 1))).bind fun t1128 => ((vernierref06_Fold.f k x0 x1).bind fun t1129 => (if t1129 = t1128 then (verniertop_TopRises.j1 k x0 x1 x2 x3 x12 x14 x16 x18 x20 x22 t1128 true) else ((vernierref06_Fold.f k x0 x3).bind fun t1130 => (if t1130 = t1128 then (verniertop_TopRises.j1 k x0 x1 x2 x3 x12 x14 x16 x18 x20 x22 t1128 true) else ((vernierref06_Fold.f k x0 x4).bind fun t1131 => (if t1131 = t1128 then (verniertop_TopRises.j1 k x0 x1 x2 x3 x12 x14 x16 x18 x20 x22 t1128 true) else ((vernierref06_Fold.f k x0 x2).bind fun t1132 => (verniertop_TopRises.j1 k x0 x1 x2 x3 x12 x14 x16 x18 x20 x22 t1128 (t1132 == t1128))))))))))
def verniertop_TopRises.j1 : Nat → Int → Int → Int → Int → Int → Int → Int → Int → Int → Int → Int → Bool → Option (Bool)
 | 0, _, _, _, _, _, _, _, _, _, _, _, _ => none
 | k + 1, x0, x1, x2, x3, x12, x14, x16, x18, x20, x22, x24, x156 => if x156 = true then (some true) else ((vernierref08_Cmp.f k x0 x1 x2).bind fun t1133 => ((vernierref08_Cmp.f k x0 x3 0).bind fun t1134 => ((vernierref08_Cmp.f k x0 x12 x14).bind fun t1135 => ((vernierref08_Cmp.f k x0 x16 x18).bind fun t1136 => ((vernierref08_Cmp.f k x0 x20 x22).bind fun t1137 => (if (wrap64 (t1137 * t1133)) > 0 then (verniertop_TopRises.j2 k t1133 t1134 t1135 t1136 true) else (if t1134 = 0 then (if t1135 = 0 then (if x16 = x24 then (verniertop_TopRises.j2 k t1133 t1134 t1135 t1136 (x18 != x24)) else (verniertop_TopRises.j2 k t1133 t1134 t1135 t1136 true)) else (verniertop_TopRises.j2 k t1133 t1134 t1135 t1136 true)) else (verniertop_TopRises.j2 k t1133 t1134 t1135 t1136 false))))))))
def verniertop_TopRises.j2 : Nat → Int → Int → Int → Int → Bool → Option (Bool)
 | 0, _, _, _, _, _ => none
 | k + 1, x25, x26, x27, x28, x197 => if x197 = true then (some false) else (if x26 = 0 then (some true) else (if (wrap64 ((wrap64 (x27 * x25)) * x26)) ≥ 0 then (some (decide ((wrap64 ((wrap64 (x28 * x25)) * x26)) ≥ 0))) else (some false)))
end
def verniertop_TopRises.f (k : Nat) (a0 : Int) (a1 : Int) (a2 : Int) (a3 : Int) (a4 : Int) : Option (Bool) := (vernierref05_Is.f a0).bind fun t1103 => ((fuse_Fma.f k a0 a1 a3 a4).bind fun bt1104 => ((fuse_Fma.f k a0 a2 a3 a4).bind fun bt1106 => ((quot_Div.f k a0 a1 a3).bind fun bt1108 => ((quot_Div.f k a0 a2 a3).bind fun bt1110 => ((sum_Sub.f k a0 a4 a1).bind fun bt1112 => ((sum_Sub.f k a0 a4 a2).bind fun bt1114 => (if t1103 = true then (if bt1104.2.isNone = true then (if bt1106.2.isNone = true then (if bt1108.2.isNone = true then (if bt1110.2.isNone = true then (if bt1112.2.isNone = true then (if bt1114.2.isNone = true then (verniertop_TopRises.j0 k a0 a1 a2 a3 a4 bt1104.1 bt1106.1 bt1108.1 bt1110.1 bt1112.1 bt1114.1 false) else (verniertop_TopRises.j0 k a0 a1 a2 a3 a4 bt1104.1 bt1106.1 bt1108.1 bt1110.1 bt1112.1 bt1114.1 true)) else (verniertop_TopRises.j0 k a0 a1 a2 a3 a4 bt1104.1 bt1106.1 bt1108.1 bt1110.1 bt1112.1 bt1114.1 true)) else (verniertop_TopRises.j0 k a0 a1 a2 a3 a4 bt1104.1 bt1106.1 bt1108.1 bt1110.1 bt1112.1 bt1114.1 true)) else (verniertop_TopRises.j0 k a0 a1 a2 a3 a4 bt1104.1 bt1106.1 bt1108.1 bt1110.1 bt1112.1 bt1114.1 true)) else (verniertop_TopRises.j0 k a0 a1 a2 a3 a4 bt1104.1 bt1106.1 bt1108.1 bt1110.1 bt1112.1 bt1114.1 true)) else (verniertop_TopRises.j0 k a0 a1 a2 a3 a4 bt1104.1 bt1106.1 bt1108.1 bt1110.1 bt1112.1 bt1114.1 true)) else (if bt1104.2.isNone = true then (some false) else (if (bt1104.2.getD 0) = 2 then (if bt1106.2.isNone = true then (some false) else (if (bt1106.2.getD 0) = 2 then (if bt1108.2.isNone = true then (some false) else (if (bt1108.2.getD 0) = 2 then (if bt1110.2.isNone = true then (some false) else (if (bt1110.2.getD 0) = 2 then (if bt1112.2.isNone = true then (some false) else (if (bt1112.2.getD 0) = 2 then (if bt1114.2.isNone = true then (some false) else (some ((bt1114.2.getD 0) == 2))) else (some false))) else (some false))) else (some false))) else (some false))) else (some false))))))))))
def verniertop_TopRises.E (k : Nat) (a0 a1 a2 a3 a4 : Int) : Prop := (∀ b x e, vernierref05_Is.f a0 = some b → fuse_Fma.f k a0 a1 a3 a4 = some (x, e) → e = if b = true then none else some 2) ∧ (∀ b x e, vernierref05_Is.f a0 = some b → fuse_Fma.f k a0 a2 a3 a4 = some (x, e) → e = if b = true then none else some 2) ∧ (∀ b x e, vernierref05_Is.f a0 = some b → quot_Div.f k a0 a1 a3 = some (x, e) → e = if b = true then none else some 2) ∧ (∀ b x e, vernierref05_Is.f a0 = some b → quot_Div.f k a0 a2 a3 = some (x, e) → e = if b = true then none else some 2) ∧ (∀ b x e, vernierref05_Is.f a0 = some b → sum_Sub.f k a0 a4 a1 = some (x, e) → e = if b = true then none else some 2) ∧ (∀ b x e, vernierref05_Is.f a0 = some b → sum_Sub.f k a0 a4 a2 = some (x, e) → e = if b = true then none else some 2)
set_option maxHeartbeats 8000000 in
set_option maxRecDepth 100000 in
theorem verniertop_TopRises.calls_w (k : Nat) (a0 : Int) (a1 : Int) (a2 : Int) (a3 : Int) (a4 : Int) (r : Bool) (w : World) (hI : vernierref05_Is.f a0 = some true) (hE : verniertop_TopRises.E k a0 a1 a2 a3 a4) (h : verniertop_TopRises.f k a0 a1 a2 a3 a4 = some r) :
  Calls Try.prog 9 #[.int .i64 a0, .int .u64 a1, .int .u64 a2, .int .u64 a3, .int .u64 a4] w fun e w' => e = .returned (.bool r) ∧ Below w.heap.size w w' := by
 have hu43 := Try.underlying43
 have hu82 := Try.underlying82
 have HB := Aside0.mk (Below.refl w.heap.size w)
 have H : ((vernierref05_Is.f a0).bind fun t1103 => ((fuse_Fma.f k a0 a1 a3 a4).bind fun bt1104 => ((fuse_Fma.f k a0 a2 a3 a4).bind fun bt1106 => ((quot_Div.f k a0 a1 a3).bind fun bt1108 => ((quot_Div.f k a0 a2 a3).bind fun bt1110 => ((sum_Sub.f k a0 a4 a1).bind fun bt1112 => ((sum_Sub.f k a0 a4 a2).bind fun bt1114 => (if t1103 = true then (if bt1104.2.isNone = true then (if bt1106.2.isNone = true then (if bt1108.2.isNone = true then (if bt1110.2.isNone = true then (if bt1112.2.isNone = true then (if bt1114.2.isNone = true then (verniertop_TopRises.j0 k a0 a1 a2 a3 a4 bt1104.1 bt1106.1 bt1108.1 bt1110.1 bt1112.1 bt1114.1 false) else (verniertop_TopRises.j0 k a0 a1 a2 a3 a4 bt1104.1 bt1106.1 bt1108.1 bt1110.1 bt1112.1 bt1114.1 true)) else (verniertop_TopRises.j0 k a0 a1 a2 a3 a4 bt1104.1 bt1106.1 bt1108.1 bt1110.1 bt1112.1 bt1114.1 true)) else (verniertop_TopRises.j0 k a0 a1 a2 a3 a4 bt1104.1 bt1106.1 bt1108.1 bt1110.1 bt1112.1 bt1114.1 true)) else (verniertop_TopRises.j0 k a0 a1 a2 a3 a4 bt1104.1 bt1106.1 bt1108.1 bt1110.1 bt1112.1 bt1114.1 true)) else (verniertop_TopRises.j0 k a0 a1 a2 a3 a4 bt1104.1 bt1106.1 bt1108.1 bt1110.1 bt1112.1 bt1114.1 true)) else (verniertop_TopRises.j0 k a0 a1 a2 a3 a4 bt1104.1 bt1106.1 bt1108.1 bt1110.1 bt1112.1 bt1114.1 true)) else (if bt1104.2.isNone = true then (some false) else (if (bt1104.2.getD 0) = 2 then (if bt1106.2.isNone = true then (some false) else (if (bt1106.2.getD 0) = 2 then (if bt1108.2.isNone = true then (some false) else (if (bt1108.2.getD 0) = 2 then (if bt1110.2.isNone = true then (some false) else (if (bt1110.2.getD 0) = 2 then (if bt1112.2.isNone = true then (some false) else (if (bt1112.2.getD 0) = 2 then (if bt1114.2.isNone = true then (some false) else (some ((bt1114.2.getD 0) == 2))) else (some false))) else (some false))) else (some false))) else (some false))) else (some false))))))))))) = some r := h
 clear h
 replace H := Option.bind_eq_some_iff.mp H
 obtain ⟨t1103, A60, H⟩ := H
 try dsimp only at H
 have A6 := Aside0.mk A60
 clear A60
 replace H := Option.bind_eq_some_iff.mp H
 obtain ⟨⟨t1104, t1105⟩, A70, H⟩ := H
 try dsimp only at H
 have A7 := Aside0.mk A70
 clear A70
 replace H := Option.bind_eq_some_iff.mp H
 obtain ⟨⟨t1106, t1107⟩, A80, H⟩ := H
 try dsimp only at H
 have A8 := Aside0.mk A80
 clear A80
 replace H := Option.bind_eq_some_iff.mp H
 obtain ⟨⟨t1108, t1109⟩, A90, H⟩ := H
 try dsimp only at H
 have A9 := Aside0.mk A90
 clear A90
 replace H := Option.bind_eq_some_iff.mp H
 obtain ⟨⟨t1110, t1111⟩, A100, H⟩ := H
 try dsimp only at H
 have A10 := Aside0.mk A100
 clear A100
 replace H := Option.bind_eq_some_iff.mp H
 obtain ⟨⟨t1112, t1113⟩, A110, H⟩ := H
 try dsimp only at H
 have A11 := Aside0.mk A110
 clear A110
 replace H := Option.bind_eq_some_iff.mp H
 obtain ⟨⟨t1114, t1115⟩, A120, H⟩ := H
 try dsimp only at H
 have A12 := Aside0.mk A120
 clear A120
 obtain ⟨E0, E1, E2, E3, E4, E5⟩ := hE
 replace E0 := Aside0.mk (E0 _ _ _ A6.out A7.out)
 replace E1 := Aside0.mk (E1 _ _ _ A6.out A8.out)
 replace E2 := Aside0.mk (E2 _ _ _ A6.out A9.out)
 replace E3 := Aside0.mk (E3 _ _ _ A6.out A10.out)
 replace E4 := Aside0.mk (E4 _ _ _ A6.out A11.out)
 replace E5 := Aside0.mk (E5 _ _ _ A6.out A12.out)
 by_cases c13 : t1103 = true
 ·subst c13
  have E0q : t1105 = none := by simpa using E0.out
  replace E0 := Aside0.mk E0q
  clear E0q
  have E1q : t1107 = none := by simpa using E1.out
  replace E1 := Aside0.mk E1q
  clear E1q
  have E2q : t1109 = none := by simpa using E2.out
  replace E2 := Aside0.mk E2q
  clear E2q
  have E3q : t1111 = none := by simpa using E3.out
  replace E3 := Aside0.mk E3q
  clear E3q
  have E4q : t1113 = none := by simpa using E4.out
  replace E4 := Aside0.mk E4q
  clear E4q
  have E5q : t1115 = none := by simpa using E5.out
  replace E5 := Aside0.mk E5q
  clear E5q
  rw [if_pos rfl] at H
  have HC14 := Aside0.mk H
  clear H
  go_enter Try.func9, Try.ntmps9
  go_upto_region 10 with (first | ((with_reducible refine gate_callee (f := 48) rfl ?_); refine goesL_ (some 31) rfl rfl Try.func48 (by kernel_rfl) rfl #[.int .i64 a0] rfl (by (try simp only [List.map_toArray, List.map_cons, List.map_nil]); first | done | rfl | (simp only [List.length_drop, List.length_take]; rfl)) ?_; (with_reducible refine (vernierref05_Is.calls a0 true _ A6.out).mono ?_); rintro e w' ⟨rfl, ⟨nd, rfl⟩⟩; refine ⟨_, rfl, ?_⟩) | ((with_reducible refine gate_callee (f := 34) rfl ?_); refine goA (some 37) Try.func34 (fuse_Fma.calls k a0 a1 a3 a4 t1104 t1105 _ A7.out) ?_; intro w15 hb; replace HB := hbS hb; clear hb; (try simp only [errW_none, errW_some])) | ((with_reducible refine gate_callee (f := 34) rfl ?_); refine goA (some 45) Try.func34 (fuse_Fma.calls k a0 a2 a3 a4 t1106 t1107 _ A8.out) ?_; intro w16 hb; replace HB := hbS hb; clear hb; (try simp only [errW_none, errW_some])) | ((with_reducible refine gate_callee (f := 51) rfl ?_); refine goA (some 52) Try.func51 (quot_Div.calls k a0 a1 a3 t1108 t1109 _ A9.out) ?_; intro w17 hb; replace HB := hbS hb; clear hb; (try simp only [errW_none, errW_some])) | ((with_reducible refine gate_callee (f := 51) rfl ?_); refine goA (some 59) Try.func51 (quot_Div.calls k a0 a2 a3 t1110 t1111 _ A10.out) ?_; intro w18 hb; replace HB := hbS hb; clear hb; (try simp only [errW_none, errW_some])) | ((with_reducible refine gate_callee (f := 52) rfl ?_); refine goA (some 66) Try.func52 (sum_Sub.calls k a0 a4 a1 t1112 t1113 _ A11.out) ?_; intro w19 hb; replace HB := hbS hb; clear hb; (try simp only [errW_none, errW_some])) | ((with_reducible refine gate_callee (f := 52) rfl ?_); refine goA (some 73) Try.func52 (sum_Sub.calls k a0 a4 a2 t1114 t1115 _ A12.out) ?_; intro w20 hb; replace HB := hbS hb; clear hb; (try simp only [errW_none, errW_some])))
  (try simp only [Act.put, List.setIfInBounds_toArray, List.set_cons_zero, List.set_cons_succ])
  go_cut [127] (fun v127 wc => ∃ (kq : Nat) (x127_13 : Bool), v127 = .bool x127_13 ∧ Aside0 (verniertop_TopRises.j0 kq a0 a1 a2 a3 a4 t1104 t1106 t1108 t1110 t1112 t1114 x127_13 = some r) ∧ Aside0 (kq ≤ k) ∧ Aside0 (Below w.heap.size w wc))
  case first =>
   as_aux_lemma =>
    have H := HC14.out
    clear HC14
    rcases t1105 with _ | q1122
    ·rw [if_pos (show (none : Option Int).isNone = true by rfl)] at H
     try simp only [errW_none, errW_some]
     rcases t1107 with _ | q1123
     ·rw [if_pos (show (none : Option Int).isNone = true by rfl)] at H
      try simp only [errW_none, errW_some]
      rcases t1109 with _ | q1124
      ·rw [if_pos (show (none : Option Int).isNone = true by rfl)] at H
       try simp only [errW_none, errW_some]
       rcases t1111 with _ | q1125
       ·rw [if_pos (show (none : Option Int).isNone = true by rfl)] at H
        try simp only [errW_none, errW_some]
        rcases t1113 with _ | q1126
        ·rw [if_pos (show (none : Option Int).isNone = true by rfl)] at H
         try simp only [errW_none, errW_some]
         rcases t1115 with _ | q1127
         ·rw [if_pos (show (none : Option Int).isNone = true by rfl)] at H
          try simp only [errW_none, errW_some]
          have H' := Aside0.mk H
          clear H
          go_wp2
          go_meet
          case rel => exact ⟨_, (false), okT, H', leT, ⟨hbT⟩⟩
         ·exact absurd E5.out (by simp)
        ·exact absurd E4.out (by simp)
       ·exact absurd E3.out (by simp)
      ·exact absurd E2.out (by simp)
     ·exact absurd E1.out (by simp)
    ·exact absurd E0.out (by simp)
  case rest =>
   as_aux_lemma =>
    clear HC14
    try clear c13
    obtain ⟨kq, x127_13, rfl, HA, HJ13, HB⟩ := hcut
    cases kq with
    | zero => exact absurd HA.out (by simp [verniertop_TopRises.j0])
    | succ kj13 =>
     have H := HA.out
     clear HA
     simp only [verniertop_TopRises.j0] at H
     by_cases c21 : x127_13 = true
     ·subst c21
      rw [if_pos rfl] at H
      obtain rfl := Option.some.inj H
      go_wp2
      go_ret
      exact ⟨reT, hbT⟩
     ·replace c21 := Bool.eq_false_iff.mpr c21
      subst c21
      rw [if_neg (show ¬ (false = true) by decide)] at H
      replace H := Option.bind_eq_some_iff.mp H
      obtain ⟨t1128, A220, H⟩ := H
      try dsimp only at H
      have A22 := Aside0.mk A220
      clear A220
      have HC23 := Aside0.mk H
      clear H
      go_upto_region 13 with (first | ((with_reducible refine gate_callee (f := 53) rfl ?_); refine goesL_ (some 130) rfl rfl Try.func53 (by kernel_rfl) rfl #[.int .i64 (wrap64 (a0 - 1))] rfl (by (try simp only [List.map_toArray, List.map_cons, List.map_nil]); first | done | rfl | (simp only [List.length_drop, List.length_take]; rfl)) ?_; (with_reducible refine (vernierref05_Power.calls kj13 (wrap64 (a0 - 1)) t1128 _ A22.out).mono ?_); rintro e w' ⟨rfl, ⟨nd, rfl⟩⟩; refine ⟨_, rfl, ?_⟩))
      (try simp only [Act.put, List.setIfInBounds_toArray, List.set_cons_zero, List.set_cons_succ])
      go_cut [156] (fun v156 wc => ∃ (kq : Nat) (x156_22 : Bool), v156 = .bool x156_22 ∧ Aside0 (verniertop_TopRises.j1 kq a0 a1 a2 a3 t1104 t1106 t1108 t1110 t1112 t1114 t1128 x156_22 = some r) ∧ Aside0 (kq ≤ kj13) ∧ Aside0 (Below w.heap.size w wc))
      case first =>
       as_aux_lemma =>
        have H := HC23.out
        clear HC23
        replace H := Option.bind_eq_some_iff.mp H
        obtain ⟨t1129, A240, H⟩ := H
        try dsimp only at H
        have A24 := Aside0.mk A240
        clear A240
        by_cases c25 : t1129 = t1128
        ·rw [if_pos c25] at H
         obtain ⟨c25b0, c25b1⟩ := eqY c25
         clear c25
         (first | rw [c25b0] | (simp only [i64_w, i32_w]; rw [c25b0]) | rw [c25b1] | skip)
         have H' := Aside0.mk H
         clear H
         go_wp2_with (first | ((with_reducible refine gate_callee (f := 49) rfl ?_); refine goA (some 133) Try.func49 (vernierref06_Fold.calls kj13 a0 a1 t1129 _ A24.out) ?_; intro w26 hb; replace HB := hbS hb; clear hb))
         go_meet
         case rel => exact ⟨_, (true), okT, H', ⟨by have := HJ13.out; first | omega | exact Nat.le_refl _⟩, ⟨hbT⟩⟩
        ·rw [if_neg c25] at H
         obtain ⟨c25b0, c25b1⟩ := eqN c25
         (first | rw [c25b0] | (simp only [i64_w, i32_w]; rw [c25b0]) | rw [c25b1] | skip)
         replace H := Option.bind_eq_some_iff.mp H
         obtain ⟨t1130, A270, H⟩ := H
         try dsimp only at H
         have A27 := Aside0.mk A270
         clear A270
         by_cases c28 : t1130 = t1128
         ·rw [if_pos c28] at H
          obtain ⟨c28b0, c28b1⟩ := eqY c28
          clear c28
          have H' := Aside0.mk H
          clear H
          go_wp2_with (first | ((with_reducible refine gate_callee (f := 49) rfl ?_); refine goA (some 133) Try.func49 (vernierref06_Fold.calls kj13 a0 a1 t1129 _ A24.out) ?_; intro w29 hb; replace HB := hbS hb; clear hb) | (go_at_call 49; (with_reducible refine (vernierref06_Fold.calls kj13 a0 a3 t1130 _ A27.out).mono ?_); rintro e w30 ⟨rfl, hb⟩; replace HB := hbS hb; (try clear hb); (try clear hb2); (try clear hk); (try clear hi)))
          go_meet
          case rel => exact ⟨_, (true), okT, H', ⟨by have := HJ13.out; first | omega | exact Nat.le_refl _⟩, ⟨hbT⟩⟩
         ·rw [if_neg c28] at H
          obtain ⟨c28b0, c28b1⟩ := eqN c28
          replace H := Option.bind_eq_some_iff.mp H
          obtain ⟨t1131, A310, H⟩ := H
          try dsimp only at H
          have A31 := Aside0.mk A310
          clear A310
          by_cases c32 : t1131 = t1128
          ·rw [if_pos c32] at H
           obtain ⟨c32b0, c32b1⟩ := eqY c32
           clear c32
           have H' := Aside0.mk H
           clear H
           go_wp2_with (first | ((with_reducible refine gate_callee (f := 49) rfl ?_); refine goA (some 133) Try.func49 (vernierref06_Fold.calls kj13 a0 a1 t1129 _ A24.out) ?_; intro w33 hb; replace HB := hbS hb; clear hb) | (go_at_call 49; (with_reducible refine (vernierref06_Fold.calls kj13 a0 a3 t1130 _ A27.out).mono ?_); rintro e w34 ⟨rfl, hb⟩; replace HB := hbS hb; (try clear hb); (try clear hb2); (try clear hk); (try clear hi)) | (go_at_call 49; (with_reducible refine (vernierref06_Fold.calls kj13 a0 a4 t1131 _ A31.out).mono ?_); rintro e w35 ⟨rfl, hb⟩; replace HB := hbS hb; (try clear hb); (try clear hb2); (try clear hk); (try clear hi)))
           go_meet
           case rel => exact ⟨_, (true), okT, H', ⟨by have := HJ13.out; first | omega | exact Nat.le_refl _⟩, ⟨hbT⟩⟩
          ·rw [if_neg c32] at H
           obtain ⟨c32b0, c32b1⟩ := eqN c32
           replace H := Option.bind_eq_some_iff.mp H
           obtain ⟨t1132, A360, H⟩ := H
           try dsimp only at H
           have A36 := Aside0.mk A360
           clear A360
           have H' := Aside0.mk H
           clear H
           go_wp2_with (first | ((with_reducible refine gate_callee (f := 49) rfl ?_); refine goA (some 133) Try.func49 (vernierref06_Fold.calls kj13 a0 a1 t1129 _ A24.out) ?_; intro w37 hb; replace HB := hbS hb; clear hb) | (go_at_call 49; (with_reducible refine (vernierref06_Fold.calls kj13 a0 a3 t1130 _ A27.out).mono ?_); rintro e w38 ⟨rfl, hb⟩; replace HB := hbS hb; (try clear hb); (try clear hb2); (try clear hk); (try clear hi)) | (go_at_call 49; (with_reducible refine (vernierref06_Fold.calls kj13 a0 a4 t1131 _ A31.out).mono ?_); rintro e w39 ⟨rfl, hb⟩; replace HB := hbS hb; (try clear hb); (try clear hb2); (try clear hk); (try clear hi)) | (go_at_call 49; (with_reducible refine (vernierref06_Fold.calls kj13 a0 a2 t1132 _ A36.out).mono ?_); rintro e w40 ⟨rfl, hb⟩; replace HB := hbS hb; (try clear hb); (try clear hb2); (try clear hk); (try clear hi)))
           go_meet
           case rel => exact ⟨_, ((t1132 == t1128)), okT, H', ⟨by have := HJ13.out; first | omega | exact Nat.le_refl _⟩, ⟨hbT⟩⟩
      case rest =>
       as_aux_lemma =>
        clear HC23
        try clear c21
        obtain ⟨kq, x156_22, rfl, HA, HJ22, HB⟩ := hcut
        cases kq with
        | zero => exact absurd HA.out (by simp [verniertop_TopRises.j1])
        | succ kj22 =>
         have H := HA.out
         clear HA
         simp only [verniertop_TopRises.j1] at H
         by_cases c41 : x156_22 = true
         ·subst c41
          rw [if_pos rfl] at H
          obtain rfl := Option.some.inj H
          go_wp2
          go_ret
          exact ⟨reT, hbT⟩
         ·replace c41 := Bool.eq_false_iff.mpr c41
          subst c41
          rw [if_neg (show ¬ (false = true) by decide)] at H
          replace H := Option.bind_eq_some_iff.mp H
          obtain ⟨t1133, A420, H⟩ := H
          try dsimp only at H
          have A42 := Aside0.mk A420
          clear A420
          replace H := Option.bind_eq_some_iff.mp H
          obtain ⟨t1134, A430, H⟩ := H
          try dsimp only at H
          have A43 := Aside0.mk A430
          clear A430
          replace H := Option.bind_eq_some_iff.mp H
          obtain ⟨t1135, A440, H⟩ := H
          try dsimp only at H
          have A44 := Aside0.mk A440
          clear A440
          replace H := Option.bind_eq_some_iff.mp H
          obtain ⟨t1136, A450, H⟩ := H
          try dsimp only at H
          have A45 := Aside0.mk A450
          clear A450
          replace H := Option.bind_eq_some_iff.mp H
          obtain ⟨t1137, A460, H⟩ := H
          try dsimp only at H
          have A46 := Aside0.mk A460
          clear A460
          have HC47 := Aside0.mk H
          clear H
          go_upto_region 20 with (first | ((with_reducible refine gate_callee (f := 50) rfl ?_); refine goA (some 160) Try.func50 (vernierref08_Cmp.calls kj22 a0 a1 a2 t1133 _ A42.out) ?_; intro w48 hb; replace HB := hbS hb; clear hb) | ((with_reducible refine gate_callee (f := 50) rfl ?_); refine goA (some 163) Try.func50 (vernierref08_Cmp.calls kj22 a0 a3 0 t1134 _ A43.out) ?_; intro w49 hb; replace HB := hbS hb; clear hb) | ((with_reducible refine gate_callee (f := 50) rfl ?_); refine goA (some 167) Try.func50 (vernierref08_Cmp.calls kj22 a0 t1104 t1106 t1135 _ A44.out) ?_; intro w50 hb; replace HB := hbS hb; clear hb) | ((with_reducible refine gate_callee (f := 50) rfl ?_); refine goA (some 171) Try.func50 (vernierref08_Cmp.calls kj22 a0 t1108 t1110 t1136 _ A45.out) ?_; intro w51 hb; replace HB := hbS hb; clear hb) | ((with_reducible refine gate_callee (f := 50) rfl ?_); refine goA (some 175) Try.func50 (vernierref08_Cmp.calls kj22 a0 t1112 t1114 t1137 _ A46.out) ?_; intro w52 hb; replace HB := hbS hb; clear hb))
          (try simp only [Act.put, List.setIfInBounds_toArray, List.set_cons_zero, List.set_cons_succ])
          go_cut [197] (fun v197 wc => ∃ (kq : Nat) (x197_46 : Bool), v197 = .bool x197_46 ∧ Aside0 (verniertop_TopRises.j2 kq t1133 t1134 t1135 t1136 x197_46 = some r) ∧ Aside0 (kq ≤ kj22) ∧ Aside0 (Below w.heap.size w wc))
          case first =>
           as_aux_lemma =>
            have H := HC47.out
            clear HC47
            by_cases c53 : (wrap64 (t1137 * t1133)) > 0
            ·rw [if_pos c53] at H
             have c53b0 : decide (0 < (wrap64 (t1137 * t1133))) = true := decide_eq_true c53
             clear c53
             (first | rw [c53b0] | (simp only [i64_w, i32_w]; rw [c53b0]) | rw [c53b1] | skip)
             have H' := Aside0.mk H
             clear H
             go_wp2
             go_meet
             case rel => exact ⟨_, (true), okT, H', ⟨by have := HJ13.out; have := HJ22.out; first | omega | exact Nat.le_refl _⟩, ⟨hbT⟩⟩
            ·rw [if_neg c53] at H
             have c53b0 : decide (0 < (wrap64 (t1137 * t1133))) = false := decide_eq_false c53
             clear c53
             (first | rw [c53b0] | (simp only [i64_w, i32_w]; rw [c53b0]) | rw [c53b1] | skip)
             by_cases c54 : t1134 = 0
             ·rw [if_pos c54] at H
              obtain ⟨c54b0, c54b1⟩ := eqY c54
              clear c54
              by_cases c55 : t1135 = 0
              ·rw [if_pos c55] at H
               obtain ⟨c55b0, c55b1⟩ := eqY c55
               clear c55
               by_cases c56 : t1108 = t1128
               ·rw [if_pos c56] at H
                obtain ⟨c56b0, c56b1⟩ := eqY c56
                clear c56
                have H' := Aside0.mk H
                clear H
                go_wp2
                go_meet
                case rel => exact ⟨_, ((t1110 != t1128)), okT, H', ⟨by have := HJ13.out; have := HJ22.out; first | omega | exact Nat.le_refl _⟩, ⟨hbT⟩⟩
               ·rw [if_neg c56] at H
                obtain ⟨c56b0, c56b1⟩ := eqN c56
                have H' := Aside0.mk H
                clear H
                go_wp2
                go_meet
                case rel => exact ⟨_, (true), okT, H', ⟨by have := HJ13.out; have := HJ22.out; first | omega | exact Nat.le_refl _⟩, ⟨hbT⟩⟩
              ·rw [if_neg c55] at H
               obtain ⟨c55b0, c55b1⟩ := eqN c55
               have H' := Aside0.mk H
               clear H
               go_wp2
               go_meet
               case rel => exact ⟨_, (true), okT, H', ⟨by have := HJ13.out; have := HJ22.out; first | omega | exact Nat.le_refl _⟩, ⟨hbT⟩⟩
             ·rw [if_neg c54] at H
              obtain ⟨c54b0, c54b1⟩ := eqN c54
              have H' := Aside0.mk H
              clear H
              go_wp2
              go_meet
              case rel => exact ⟨_, (false), okT, H', ⟨by have := HJ13.out; have := HJ22.out; first | omega | exact Nat.le_refl _⟩, ⟨hbT⟩⟩
          case rest =>
           as_aux_lemma =>
            clear HC47
            try clear c41
            obtain ⟨kq, x197_46, rfl, HA, HJ46, HB⟩ := hcut
            cases kq with
            | zero => exact absurd HA.out (by simp [verniertop_TopRises.j2])
            | succ kj46 =>
             have H := HA.out
             clear HA
             simp only [verniertop_TopRises.j2] at H
             by_cases c57 : x197_46 = true
             ·subst c57
              rw [if_pos rfl] at H
              obtain rfl := Option.some.inj H
              go_wp2
              go_ret
              exact ⟨reT, hbT⟩
             ·replace c57 := Bool.eq_false_iff.mpr c57
              subst c57
              rw [if_neg (show ¬ (false = true) by decide)] at H
              by_cases c58 : t1134 = 0
              ·rw [if_pos c58] at H
               obtain ⟨c58b0, c58b1⟩ := eqY c58
               clear c58
               obtain rfl := Option.some.inj H
               go_wp2
               go_ret
               exact ⟨reT, hbT⟩
              ·rw [if_neg c58] at H
               obtain ⟨c58b0, c58b1⟩ := eqN c58
               by_cases c59 : (wrap64 ((wrap64 (t1135 * t1133)) * t1134)) ≥ 0
               ·rw [if_pos c59] at H
                have c59b0 : decide (0 ≤ (wrap64 ((wrap64 (t1135 * t1133)) * t1134))) = true := decide_eq_true c59
                clear c59
                obtain rfl := Option.some.inj H
                go_wp2
                go_ret
                exact ⟨reT, hbT⟩
               ·rw [if_neg c59] at H
                have c59b0 : decide (0 ≤ (wrap64 ((wrap64 (t1135 * t1133)) * t1134))) = false := decide_eq_false c59
                clear c59
                obtain rfl := Option.some.inj H
                go_wp2
                go_ret
                exact ⟨reT, hbT⟩
 ·exact absurd (Option.some.inj (A6.out.symm.trans hI)) c13
set_option maxHeartbeats 8000000 in
set_option maxRecDepth 100000 in
theorem verniertop_TopRises.calls_n (k : Nat) (a0 : Int) (a1 : Int) (a2 : Int) (a3 : Int) (a4 : Int) (r : Bool) (w : World) (hI : vernierref05_Is.f a0 = some false) (hE : verniertop_TopRises.E k a0 a1 a2 a3 a4) (h : verniertop_TopRises.f k a0 a1 a2 a3 a4 = some r) :
  Calls Try.prog 9 #[.int .i64 a0, .int .u64 a1, .int .u64 a2, .int .u64 a3, .int .u64 a4] w fun e w' => e = .returned (.bool r) ∧ Below w.heap.size w w' := by
 have hu43 := Try.underlying43
 have hu82 := Try.underlying82
 have HB := Aside0.mk (Below.refl w.heap.size w)
 have H : ((vernierref05_Is.f a0).bind fun t1103 => ((fuse_Fma.f k a0 a1 a3 a4).bind fun bt1104 => ((fuse_Fma.f k a0 a2 a3 a4).bind fun bt1106 => ((quot_Div.f k a0 a1 a3).bind fun bt1108 => ((quot_Div.f k a0 a2 a3).bind fun bt1110 => ((sum_Sub.f k a0 a4 a1).bind fun bt1112 => ((sum_Sub.f k a0 a4 a2).bind fun bt1114 => (if t1103 = true then (if bt1104.2.isNone = true then (if bt1106.2.isNone = true then (if bt1108.2.isNone = true then (if bt1110.2.isNone = true then (if bt1112.2.isNone = true then (if bt1114.2.isNone = true then (verniertop_TopRises.j0 k a0 a1 a2 a3 a4 bt1104.1 bt1106.1 bt1108.1 bt1110.1 bt1112.1 bt1114.1 false) else (verniertop_TopRises.j0 k a0 a1 a2 a3 a4 bt1104.1 bt1106.1 bt1108.1 bt1110.1 bt1112.1 bt1114.1 true)) else (verniertop_TopRises.j0 k a0 a1 a2 a3 a4 bt1104.1 bt1106.1 bt1108.1 bt1110.1 bt1112.1 bt1114.1 true)) else (verniertop_TopRises.j0 k a0 a1 a2 a3 a4 bt1104.1 bt1106.1 bt1108.1 bt1110.1 bt1112.1 bt1114.1 true)) else (verniertop_TopRises.j0 k a0 a1 a2 a3 a4 bt1104.1 bt1106.1 bt1108.1 bt1110.1 bt1112.1 bt1114.1 true)) else (verniertop_TopRises.j0 k a0 a1 a2 a3 a4 bt1104.1 bt1106.1 bt1108.1 bt1110.1 bt1112.1 bt1114.1 true)) else (verniertop_TopRises.j0 k a0 a1 a2 a3 a4 bt1104.1 bt1106.1 bt1108.1 bt1110.1 bt1112.1 bt1114.1 true)) else (if bt1104.2.isNone = true then (some false) else (if (bt1104.2.getD 0) = 2 then (if bt1106.2.isNone = true then (some false) else (if (bt1106.2.getD 0) = 2 then (if bt1108.2.isNone = true then (some false) else (if (bt1108.2.getD 0) = 2 then (if bt1110.2.isNone = true then (some false) else (if (bt1110.2.getD 0) = 2 then (if bt1112.2.isNone = true then (some false) else (if (bt1112.2.getD 0) = 2 then (if bt1114.2.isNone = true then (some false) else (some ((bt1114.2.getD 0) == 2))) else (some false))) else (some false))) else (some false))) else (some false))) else (some false))))))))))) = some r := h
 clear h
 replace H := Option.bind_eq_some_iff.mp H
 obtain ⟨t1103, A60, H⟩ := H
 try dsimp only at H
 have A6 := Aside0.mk A60
 clear A60
 replace H := Option.bind_eq_some_iff.mp H
 obtain ⟨⟨t1104, t1105⟩, A70, H⟩ := H
 try dsimp only at H
 have A7 := Aside0.mk A70
 clear A70
 replace H := Option.bind_eq_some_iff.mp H
 obtain ⟨⟨t1106, t1107⟩, A80, H⟩ := H
 try dsimp only at H
 have A8 := Aside0.mk A80
 clear A80
 replace H := Option.bind_eq_some_iff.mp H
 obtain ⟨⟨t1108, t1109⟩, A90, H⟩ := H
 try dsimp only at H
 have A9 := Aside0.mk A90
 clear A90
 replace H := Option.bind_eq_some_iff.mp H
 obtain ⟨⟨t1110, t1111⟩, A100, H⟩ := H
 try dsimp only at H
 have A10 := Aside0.mk A100
 clear A100
 replace H := Option.bind_eq_some_iff.mp H
 obtain ⟨⟨t1112, t1113⟩, A110, H⟩ := H
 try dsimp only at H
 have A11 := Aside0.mk A110
 clear A110
 replace H := Option.bind_eq_some_iff.mp H
 obtain ⟨⟨t1114, t1115⟩, A120, H⟩ := H
 try dsimp only at H
 have A12 := Aside0.mk A120
 clear A120
 obtain ⟨E0, E1, E2, E3, E4, E5⟩ := hE
 replace E0 := Aside0.mk (E0 _ _ _ A6.out A7.out)
 replace E1 := Aside0.mk (E1 _ _ _ A6.out A8.out)
 replace E2 := Aside0.mk (E2 _ _ _ A6.out A9.out)
 replace E3 := Aside0.mk (E3 _ _ _ A6.out A10.out)
 replace E4 := Aside0.mk (E4 _ _ _ A6.out A11.out)
 replace E5 := Aside0.mk (E5 _ _ _ A6.out A12.out)
 by_cases c13 : t1103 = true
 ·exact absurd (c13.symm.trans (Option.some.inj (A6.out.symm.trans hI))) (by decide)
 ·replace c13 := Bool.eq_false_iff.mpr c13
  subst c13
  have E0q : t1105 = some 2 := by simpa using E0.out
  replace E0 := Aside0.mk E0q
  clear E0q
  have E1q : t1107 = some 2 := by simpa using E1.out
  replace E1 := Aside0.mk E1q
  clear E1q
  have E2q : t1109 = some 2 := by simpa using E2.out
  replace E2 := Aside0.mk E2q
  clear E2q
  have E3q : t1111 = some 2 := by simpa using E3.out
  replace E3 := Aside0.mk E3q
  clear E3q
  have E4q : t1113 = some 2 := by simpa using E4.out
  replace E4 := Aside0.mk E4q
  clear E4q
  have E5q : t1115 = some 2 := by simpa using E5.out
  replace E5 := Aside0.mk E5q
  clear E5q
  rw [if_neg (show ¬ (false = true) by decide)] at H
  rcases t1105 with _ | q1116
  ·exact absurd E0.out (by simp)
  ·rw [if_neg (show ¬ (some q1116).isNone = true by simp)] at H
   simp only [Option.getD_some] at H
   try simp only [errW_none, errW_some]
   by_cases c66 : q1116 = 2
   ·rw [if_pos c66] at H
    obtain ⟨c66b0, c66b1⟩ := eqY c66
    clear c66
    rcases t1107 with _ | q1117
    ·exact absurd E1.out (by simp)
    ·rw [if_neg (show ¬ (some q1117).isNone = true by simp)] at H
     simp only [Option.getD_some] at H
     try simp only [errW_none, errW_some]
     by_cases c73 : q1117 = 2
     ·rw [if_pos c73] at H
      obtain ⟨c73b0, c73b1⟩ := eqY c73
      clear c73
      rcases t1109 with _ | q1118
      ·exact absurd E2.out (by simp)
      ·rw [if_neg (show ¬ (some q1118).isNone = true by simp)] at H
       simp only [Option.getD_some] at H
       try simp only [errW_none, errW_some]
       by_cases c80 : q1118 = 2
       ·rw [if_pos c80] at H
        obtain ⟨c80b0, c80b1⟩ := eqY c80
        clear c80
        rcases t1111 with _ | q1119
        ·exact absurd E3.out (by simp)
        ·rw [if_neg (show ¬ (some q1119).isNone = true by simp)] at H
         simp only [Option.getD_some] at H
         try simp only [errW_none, errW_some]
         by_cases c87 : q1119 = 2
         ·rw [if_pos c87] at H
          obtain ⟨c87b0, c87b1⟩ := eqY c87
          clear c87
          rcases t1113 with _ | q1120
          ·exact absurd E4.out (by simp)
          ·rw [if_neg (show ¬ (some q1120).isNone = true by simp)] at H
           simp only [Option.getD_some] at H
           try simp only [errW_none, errW_some]
           by_cases c94 : q1120 = 2
           ·rw [if_pos c94] at H
            obtain ⟨c94b0, c94b1⟩ := eqY c94
            clear c94
            rcases t1115 with _ | q1121
            ·exact absurd E5.out (by simp)
            ·rw [if_neg (show ¬ (some q1121).isNone = true by simp)] at H
             simp only [Option.getD_some] at H
             try simp only [errW_none, errW_some]
             obtain rfl := Option.some.inj H
             go_enter Try.func9, Try.ntmps9
             go_wp2_with (first | ((with_reducible refine gate_callee (f := 48) rfl ?_); refine goesL_ (some 31) rfl rfl Try.func48 (by kernel_rfl) rfl #[.int .i64 a0] rfl (by (try simp only [List.map_toArray, List.map_cons, List.map_nil]); first | done | rfl | (simp only [List.length_drop, List.length_take]; rfl)) ?_; (with_reducible refine (vernierref05_Is.calls a0 false _ A6.out).mono ?_); rintro e w' ⟨rfl, ⟨nd, rfl⟩⟩; refine ⟨_, rfl, ?_⟩) | ((with_reducible refine gate_callee (f := 34) rfl ?_); refine goA (some 37) Try.func34 (fuse_Fma.calls k a0 a1 a3 a4 t1104 (some q1116) _ A7.out) ?_; intro w101 hb; replace HB := hbS hb; clear hb; (try simp only [errW_none, errW_some])) | ((with_reducible refine gate_callee (f := 34) rfl ?_); refine goA (some 45) Try.func34 (fuse_Fma.calls k a0 a2 a3 a4 t1106 (some q1117) _ A8.out) ?_; intro w102 hb; replace HB := hbS hb; clear hb; (try simp only [errW_none, errW_some])) | ((with_reducible refine gate_callee (f := 51) rfl ?_); refine goA (some 52) Try.func51 (quot_Div.calls k a0 a1 a3 t1108 (some q1118) _ A9.out) ?_; intro w103 hb; replace HB := hbS hb; clear hb; (try simp only [errW_none, errW_some])) | ((with_reducible refine gate_callee (f := 51) rfl ?_); refine goA (some 59) Try.func51 (quot_Div.calls k a0 a2 a3 t1110 (some q1119) _ A10.out) ?_; intro w104 hb; replace HB := hbS hb; clear hb; (try simp only [errW_none, errW_some])) | ((with_reducible refine gate_callee (f := 52) rfl ?_); refine goA (some 66) Try.func52 (sum_Sub.calls k a0 a4 a1 t1112 (some q1120) _ A11.out) ?_; intro w105 hb; replace HB := hbS hb; clear hb; (try simp only [errW_none, errW_some])) | ((with_reducible refine gate_callee (f := 52) rfl ?_); refine goA (some 73) Try.func52 (sum_Sub.calls k a0 a4 a2 t1114 (some q1121) _ A12.out) ?_; intro w106 hb; replace HB := hbS hb; clear hb; (try simp only [errW_none, errW_some])))
             go_ret
             exact ⟨reT, hbT⟩
           ·exact absurd (Option.some.inj E4.out) c94
         ·exact absurd (Option.some.inj E3.out) c87
       ·exact absurd (Option.some.inj E2.out) c80
     ·exact absurd (Option.some.inj E1.out) c73
   ·exact absurd (Option.some.inj E0.out) c66
set_option maxHeartbeats 8000000 in
set_option maxRecDepth 100000 in
theorem verniertop_TopRises.calls (k : Nat) (a0 : Int) (a1 : Int) (a2 : Int) (a3 : Int) (a4 : Int) (r : Bool) (w : World) (hE : verniertop_TopRises.E k a0 a1 a2 a3 a4) (h : verniertop_TopRises.f k a0 a1 a2 a3 a4 = some r) :
  Calls Try.prog 9 #[.int .i64 a0, .int .u64 a1, .int .u64 a2, .int .u64 a3, .int .u64 a4] w fun e w' => e = .returned (.bool r) ∧ Below w.heap.size w w' := by
 cases hI : vernierref05_Is.f a0 with
 | none =>
  unfold verniertop_TopRises.f at h
  rw [hI] at h
  cases h
 | some b =>
  cases b
  ·exact verniertop_TopRises.calls_n k a0 a1 a2 a3 a4 r w hI hE h
  ·exact verniertop_TopRises.calls_w k a0 a1 a2 a3 a4 r w hI hE h
def verniertop_TopRises.Pure : Prop := ∀ (a0 : Int) (a1 : Int) (a2 : Int) (a3 : Int) (a4 : Int), (Lit.int .i64 a0).wf = true → (Lit.int .u64 a1).wf = true → (Lit.int .u64 a2).wf = true → (Lit.int .u64 a3).wf = true → (Lit.int .u64 a4).wf = true → ∃ k, verniertop_TopRises.E k a0 a1 a2 a3 a4 ∧ verniertop_TopRises.f k a0 a1 a2 a3 a4 = some true
theorem verniertop_TopRises.walk (P : verniertop_TopRises.Pure) (a0 : Int) (a1 : Int) (a2 : Int) (a3 : Int) (a4 : Int) (w : World) (w0 : (Lit.int .i64 a0).wf = true) (w1 : (Lit.int .u64 a1).wf = true) (w2 : (Lit.int .u64 a2).wf = true) (w3 : (Lit.int .u64 a3).wf = true) (w4 : (Lit.int .u64 a4).wf = true) :
  Calls Try.prog 9 #[.int .i64 a0, .int .u64 a1, .int .u64 a2, .int .u64 a3, .int .u64 a4] w fun e w' => e = .returned (.bool true) ∧ Below w.heap.size w w' := by
 obtain ⟨k, hE, h⟩ := P a0 a1 a2 a3 a4 w0 w1 w2 w3 w4
 refine (verniertop_TopRises.calls k a0 a1 a2 a3 a4 true w hE h).mono ?_
 rintro e w' ⟨rfl, hd⟩
 exact ⟨rfl, hd⟩
end Go.Proofs.Ytnlbfomlfhigcaa.Q
namespace Go.Proofs.Ytnlbfomlfhigcaa.M
def tl (s : Int) (F : Nat) : Nat := (s % 4).toNat * 2 ^ 127 + (F - 2 ^ 127)
def str (s : Int) (F : Nat) : Nat :=
  if 0 ≤ s / 4 then 2 ^ 200 - 2 ^ 130 * 2 ^ (69 - (s / 4).toNat) + tl s F * 2 ^ (69 - (s / 4).toNat)
  else 2 ^ 129 * 2 ^ (70 - (-(s / 4)).toNat) + tl s F * 2 ^ (70 - (-(s / 4)).toNat)
theorem tl_lt {s : Int} {F : Nat} (hF : F < 2 ^ 128) : tl s F < 2 ^ 129 := by
  unfold tl
  have h1 : (s % 4).toNat ≤ 3 := by omega
  omega
theorem str_pos {s : Int} {F k : Nat} (h : s / 4 = (k : Int)) : str s F = 2 ^ 200 - 2 ^ 130 * 2 ^ (69 - k) + tl s F * 2 ^ (69 - k) := by
  unfold str
  rw [if_pos (by omega), h]
  rfl
theorem str_neg {s : Int} {F r : Nat} (h : s / 4 = -(r : Int)) (hr : 1 ≤ r) : str s F = 2 ^ 129 * 2 ^ (70 - r) + tl s F * 2 ^ (70 - r) := by
  unfold str
  rw [if_neg (by omega), h, show (-(-(r : Int))).toNat = r by omega]
theorem pow_le {a b : Nat} (h : a ≤ b) : 2 ^ a ≤ 2 ^ b := Nat.pow_le_pow_right (by omega) h
theorem pow_dbl {a b : Nat} (h : a + 1 ≤ b) : 2 * 2 ^ a ≤ 2 ^ b := by
  have := pow_le h
  rw [Nat.pow_succ] at this
  omega
theorem pow_pos (a : Nat) : 1 ≤ 2 ^ a := Nat.one_le_two_pow
theorem pos_room {k : Nat} (h : k ≤ 69) : 2 ^ 130 * 2 ^ (69 - k) ≤ 2 ^ 199 := by
  have := pow_le (show 69 - k ≤ 69 by omega)
  calc 2 ^ 130 * 2 ^ (69 - k) ≤ 2 ^ 130 * 2 ^ 69 := Nat.mul_le_mul_left _ this
    _ = 2 ^ 199 := by rw [← Nat.pow_add]
theorem str_pos_bd {s : Int} {F k : Nat} (h : s / 4 = (k : Int)) (hk : k ≤ 69) (hF : F < 2 ^ 128) :
    2 ^ 200 - 2 ^ 130 * 2 ^ (69 - k) ≤ str s F ∧ str s F < 2 ^ 200 - 2 ^ 129 * 2 ^ (69 - k) ∧ 2 ^ 199 ≤ str s F := by
  rw [str_pos h]
  have h1 := pos_room hk
  have h2 := tl_lt (s := s) hF
  have h3 := pow_pos (69 - k)
  generalize 2 ^ (69 - k) = a at *
  have h4 : tl s F * a + a ≤ 2 ^ 129 * a := by
    have := Nat.mul_le_mul_right a (show tl s F + 1 ≤ 2 ^ 129 by omega)
    rw [Nat.add_mul] at this
    omega
  generalize tl s F * a = b at *
  have h5 : 2 ^ 130 * a = 2 * (2 ^ 129 * a) := by rw [← Nat.mul_assoc, ← Nat.pow_succ']
  omega
theorem str_neg_bd {s : Int} {F r : Nat} (h : s / 4 = -(r : Int)) (hr : 1 ≤ r) (hr2 : r ≤ 70) (hF : F < 2 ^ 128) :
    2 ^ 129 * 2 ^ (70 - r) ≤ str s F ∧ str s F < 2 ^ 130 * 2 ^ (70 - r) ∧ str s F < 2 ^ 199 := by
  rw [str_neg h hr]
  have h2 := tl_lt (s := s) hF
  have h3 := pow_pos (70 - r)
  have h6 : 2 ^ 130 * 2 ^ (70 - r) ≤ 2 ^ 199 := by
    calc 2 ^ 130 * 2 ^ (70 - r) ≤ 2 ^ 130 * 2 ^ 69 := Nat.mul_le_mul_left _ (pow_le (by omega))
      _ = 2 ^ 199 := by rw [← Nat.pow_add]
  generalize 2 ^ (70 - r) = a at *
  have h4 : tl s F * a + a ≤ 2 ^ 129 * a := by
    have := Nat.mul_le_mul_right a (show tl s F + 1 ≤ 2 ^ 129 by omega)
    rw [Nat.add_mul] at this
    omega
  generalize tl s F * a = b at *
  have h5 : 2 ^ 130 * a = 2 * (2 ^ 129 * a) := by rw [← Nat.mul_assoc, ← Nat.pow_succ']
  omega
theorem tl_mono {s s' : Int} {F F' : Nat} (hk : s / 4 = s' / 4) (hF : 2 ^ 127 ≤ F) (hF2 : F < 2 ^ 128) (hG : 2 ^ 127 ≤ F') (h : s < s' ∨ (s = s' ∧ F < F')) : tl s F < tl s' F' := by
  unfold tl
  rcases h with h | ⟨rfl, h⟩
  · have h1 : (s % 4).toNat + 1 ≤ (s' % 4).toNat := by omega
    omega
  · omega
theorem str_lt {s s' : Int} {F F' : Nat} (hs : -270 ≤ s) (hs2 : s ≤ 270) (ht : -270 ≤ s') (ht2 : s' ≤ 270) (hF : 2 ^ 127 ≤ F) (hF2 : F < 2 ^ 128) (hG : 2 ^ 127 ≤ F') (hG2 : F' < 2 ^ 128)
    (h : s < s' ∨ (s = s' ∧ F < F')) : str s F < str s' F' := by
  have hk : s / 4 ≤ s' / 4 := by omega
  by_cases h0 : 0 ≤ s / 4
  · obtain ⟨k, hk0⟩ := Int.eq_ofNat_of_zero_le h0
    obtain ⟨k', hk1⟩ := Int.eq_ofNat_of_zero_le (show 0 ≤ s' / 4 by omega)
    by_cases e : k = k'
    · subst e
      have := tl_mono (by omega) hF hF2 hG h
      rw [str_pos hk0, str_pos hk1]
      have h1 := pos_room (show k ≤ 69 by omega)
      have h2 : tl s F * 2 ^ (69 - k) < tl s' F' * 2 ^ (69 - k) := Nat.mul_lt_mul_of_pos_right this (pow_pos _)
      omega
    · have h1 := str_pos_bd hk0 (by omega) hF2
      have h2 := str_pos_bd hk1 (by omega) hG2
      have h3 := pow_dbl (show (69 - k') + 1 ≤ 69 - k by omega)
      have h4 := pos_room (show k ≤ 69 by omega)
      have h5 := pos_room (show k' ≤ 69 by omega)
      generalize 2 ^ (69 - k) = a at *
      generalize 2 ^ (69 - k') = b at *
      have h6 : 2 ^ 130 * b = 2 ^ 129 * (2 * b) := by rw [← Nat.mul_assoc, ← Nat.pow_succ]
      have h7 : 2 ^ 129 * (2 * b) ≤ 2 ^ 129 * a := Nat.mul_le_mul_left _ h3
      omega
  · obtain ⟨r, hr0⟩ : ∃ r : Nat, s / 4 = -(r : Int) := ⟨(-(s / 4)).toNat, by omega⟩
    have g1 := str_neg_bd hr0 (by omega) (by omega) hF2
    by_cases h1 : 0 ≤ s' / 4
    · obtain ⟨k', hk1⟩ := Int.eq_ofNat_of_zero_le h1
      have h2 := str_pos_bd hk1 (by omega) hG2
      omega
    · obtain ⟨r', hr1⟩ : ∃ r : Nat, s' / 4 = -(r : Int) := ⟨(-(s' / 4)).toNat, by omega⟩
      by_cases e : r = r'
      · subst e
        have := tl_mono (by omega) hF hF2 hG h
        rw [str_neg hr0 (by omega), str_neg hr1 (by omega)]
        have h2 : tl s F * 2 ^ (70 - r) < tl s' F' * 2 ^ (70 - r) := Nat.mul_lt_mul_of_pos_right this (pow_pos _)
        omega
      · have g2 := str_neg_bd hr1 (by omega) (by omega) hG2
        have h3 := pow_dbl (show (70 - r) + 1 ≤ 70 - r' by omega)
        generalize 2 ^ (70 - r) = a at *
        generalize 2 ^ (70 - r') = b at *
        have h6 : 2 ^ 130 * a = 2 ^ 129 * (2 * a) := by rw [← Nat.mul_assoc, ← Nat.pow_succ]
        have h7 : 2 ^ 129 * (2 * a) ≤ 2 ^ 129 * b := Nat.mul_le_mul_left _ h3
        omega
theorem str_inj {s s' : Int} {F F' : Nat} (hs : -270 ≤ s) (hs2 : s ≤ 270) (ht : -270 ≤ s') (ht2 : s' ≤ 270) (hF : 2 ^ 127 ≤ F) (hF2 : F < 2 ^ 128) (hG : 2 ^ 127 ≤ F') (hG2 : F' < 2 ^ 128)
    (h : str s F = str s' F') : s = s' ∧ F = F' := by
  rcases Int.lt_trichotomy s s' with a | a | a
  · have := str_lt hs hs2 ht ht2 hF hF2 hG hG2 (.inl a); omega
  · rcases Nat.lt_trichotomy F F' with b | b | b
    · have := str_lt hs hs2 ht ht2 hF hF2 hG hG2 (.inr ⟨a, b⟩); omega
    · exact ⟨a, b⟩
    · have := str_lt ht ht2 hs hs2 hG hG2 hF hF2 (.inr ⟨a.symm, b⟩); omega
  · have := str_lt ht ht2 hs hs2 hG hG2 hF hF2 (.inl a); omega
def rnd (D V : Nat) : Nat := if D < 2 * (V % D) ∨ (D = 2 * (V % D) ∧ V / D % 2 = 1) then V / D + 1 else V / D
theorem rnd_bd (D V : Nat) : V / D ≤ rnd D V ∧ rnd D V ≤ V / D + 1 := by
  unfold rnd
  split <;> omega
theorem rnd_mono {D V V' : Nat} (h : V ≤ V') : rnd D V ≤ rnd D V' := by
  have h1 := rnd_bd D V
  have h2 := rnd_bd D V'
  have h3 : V / D ≤ V' / D := Nat.div_le_div_right h
  by_cases e : V / D = V' / D
  · have e1 := Nat.div_add_mod V D
    have e2 := Nat.div_add_mod V' D
    unfold rnd
    rw [← e] at e2 ⊢
    generalize D * (V / D) = x at e1 e2
    split
    · rw [if_pos (by omega)]; omega
    · split <;> omega
  · omega
theorem rnd_mul {D q : Nat} (hD : 0 < D) : rnd D (q * D) = q := by
  unfold rnd
  rw [Nat.mul_mod_left, Nat.mul_div_cancel _ hD, if_neg (by omega)]
def rpos (n : Nat) (s : Int) (F : Nat) (b : Bool) : Nat :=
  if 4 * (n : Int) - 8 ≤ s then 2 ^ (n - 1) - 1 else if s < 8 - 4 * (n : Int) then 1 else rnd (2 ^ (202 - n)) (2 * str s F + b.toNat)
theorem toNat_le (b : Bool) : b.toNat ≤ 1 := by cases b <;> decide
def Wd (n : Nat) : Prop := n = 8 ∨ n = 16 ∨ n = 32 ∨ n = 64
theorem Wd.bd {n : Nat} (h : Wd n) : 8 ≤ n ∧ n ≤ 64 := by unfold Wd at h; omega
theorem unit_eq {n : Nat} (h : Wd n) : 2 ^ (n - 1) * 2 ^ (201 - n) = 2 ^ 200 ∧ 2 ^ (202 - n) = 2 * 2 ^ (201 - n) := by
  have := h.bd
  constructor
  · rw [← Nat.pow_add]; congr 1; omega
  · rw [← Nat.pow_succ']; congr 1; omega
theorem rnd_in {n : Nat} (hn : Wd n) {s : Int} {F : Nat} (b : Bool) (h1 : 8 - 4 * (n : Int) ≤ s) (h2 : s < 4 * (n : Int) - 8) (hF2 : F < 2 ^ 128) :
    1 ≤ rnd (2 ^ (202 - n)) (2 * str s F + b.toNat) ∧ rnd (2 ^ (202 - n)) (2 * str s F + b.toNat) ≤ 2 ^ (n - 1) - 1 := by
  have hb := hn.bd
  have hbb := toNat_le b
  obtain ⟨u1, u2⟩ := unit_eq hn
  have r := rnd_bd (2 ^ (202 - n)) (2 * str s F + b.toNat)
  have up : str s F < 2 ^ 200 - 2 ^ (201 - n) := by
    by_cases h0 : 0 ≤ s / 4
    · obtain ⟨k, hk⟩ := Int.eq_ofNat_of_zero_le h0
      have := (str_pos_bd hk (by omega) hF2).2.1
      have e : 2 ^ (201 - n) ≤ 2 ^ 129 * 2 ^ (69 - k) := by rw [← Nat.pow_add]; exact pow_le (by omega)
      have := pos_room (show k ≤ 69 by omega)
      omega
    · obtain ⟨r, hr⟩ : ∃ r : Nat, s / 4 = -(r : Int) := ⟨(-(s / 4)).toNat, by omega⟩
      have := (str_neg_bd hr (by omega) (by omega) hF2).2.2
      have e : 2 ^ (201 - n) ≤ 2 ^ 193 := pow_le (by omega)
      omega
  have lo : 2 ^ (201 - n) ≤ str s F := by
    by_cases h0 : 0 ≤ s / 4
    · obtain ⟨k, hk⟩ := Int.eq_ofNat_of_zero_le h0
      have := (str_pos_bd hk (by omega) hF2).2.2
      have e : 2 ^ (201 - n) ≤ 2 ^ 193 := pow_le (by omega)
      omega
    · obtain ⟨r, hr⟩ : ∃ r : Nat, s / 4 = -(r : Int) := ⟨(-(s / 4)).toNat, by omega⟩
      have := (str_neg_bd hr (by omega) (by omega) hF2).1
      have e : 2 ^ (201 - n) ≤ 2 ^ 129 * 2 ^ (70 - r) := by rw [← Nat.pow_add]; exact pow_le (by omega)
      omega
  have hp := pow_pos (201 - n)
  have hq := pow_pos (n - 1)
  generalize str s F = S at *
  rw [u2] at r ⊢
  generalize 2 ^ (201 - n) = d at *
  generalize 2 ^ (n - 1) = m at *
  have q1 : 1 ≤ (2 * S + b.toNat) / (2 * d) := (Nat.le_div_iff_mul_le (by omega)).2 (by omega)
  have q2 : (2 * S + b.toNat) / (2 * d) < m - 1 := by
    rw [Nat.div_lt_iff_lt_mul (by omega)]
    have : (m - 1) * (2 * d) = 2 * (m * d) - 2 * d := by rw [Nat.sub_mul, Nat.one_mul, Nat.mul_left_comm]
    rw [this, u1]
    omega
  omega
theorem rpos_bd {n : Nat} (hn : Wd n) (s : Int) {F : Nat} (b : Bool) (hF2 : F < 2 ^ 128) : 1 ≤ rpos n s F b ∧ rpos n s F b ≤ 2 ^ (n - 1) - 1 := by
  have hb := hn.bd
  have : 2 ^ 1 ≤ 2 ^ (n - 1) := pow_le (by omega)
  unfold rpos
  split
  · omega
  · split
    · omega
    · exact rnd_in hn b (by omega) (by omega) hF2
def leq (s : Int) (F : Nat) (b : Bool) (s' : Int) (F' : Nat) (b' : Bool) : Prop := s < s' ∨ (s = s' ∧ 2 * F + b.toNat ≤ 2 * F' + b'.toNat)
theorem rpos_mono {n : Nat} (hn : Wd n) {s s' : Int} {F F' : Nat} {b b' : Bool} (hF : 2 ^ 127 ≤ F) (hF2 : F < 2 ^ 128) (hG : 2 ^ 127 ≤ F') (hG2 : F' < 2 ^ 128)
    (h : leq s F b s' F' b') : rpos n s F b ≤ rpos n s' F' b' := by
  have hb := hn.bd
  have hbb := toNat_le b
  have hbb' := toNat_le b'
  by_cases h1 : 4 * (n : Int) - 8 ≤ s'
  · have := (rpos_bd hn s b hF2).2
    have e : rpos n s' F' b' = 2 ^ (n - 1) - 1 := by unfold rpos; rw [if_pos h1]
    omega
  · by_cases h2 : s < 8 - 4 * (n : Int)
    · have := (rpos_bd hn s' b' hG2).1
      have e : rpos n s F b = 1 := by unfold rpos; rw [if_neg (by omega), if_pos h2]
      omega
    · unfold leq at h
      unfold rpos
      rw [if_neg (by omega), if_neg (by omega), if_neg (by omega), if_neg (by omega)]
      refine rnd_mono ?_
      rcases h with h | ⟨rfl, h⟩
      · have := str_lt (by omega) (by omega) (by omega) (by omega) hF hF2 hG hG2 (.inl h)
        omega
      · by_cases e : F = F'
        · subst e; omega
        · have := str_lt (s := s) (s' := s) (by omega) (by omega) (by omega) (by omega) hF hF2 hG hG2 (.inr ⟨rfl, show F < F' by omega⟩)
          omega
def Dec (n p : Nat) (s : Int) (f : Nat) : Prop :=
  2 ^ 63 ≤ f ∧ f < 2 ^ 64 ∧ 8 - 4 * (n : Int) ≤ s ∧ s ≤ 4 * (n : Int) - 8 ∧ str s (f * 2 ^ 64) = p * 2 ^ (201 - n)
theorem Dec.F {n p : Nat} {s : Int} {f : Nat} (h : Dec n p s f) : 2 ^ 127 ≤ f * 2 ^ 64 ∧ f * 2 ^ 64 < 2 ^ 128 := by
  unfold Dec at h
  omega
theorem Dec.uniq {n p : Nat} (hn : Wd n) {s s' : Int} {f f' : Nat} (h : Dec n p s f) (h' : Dec n p s' f') : s = s' ∧ f = f' := by
  have hb := hn.bd
  have := str_inj (by unfold Dec at h; omega) (by unfold Dec at h; omega) (by unfold Dec at h'; omega) (by unfold Dec at h'; omega) h.F.1 h.F.2 h'.F.1 h'.F.2 (h.2.2.2.2.trans h'.2.2.2.2.symm)
  exact ⟨this.1, by omega⟩
theorem Dec.lt {n p q : Nat} (hn : Wd n) {s s' : Int} {f f' : Nat} (h : Dec n p s f) (h' : Dec n q s' f') (hpq : p ≤ q) : s < s' ∨ (s = s' ∧ f ≤ f') := by
  have hb := hn.bd
  have h2 := h
  have h3 := h'
  unfold Dec at h2 h3
  have e : p * 2 ^ (201 - n) ≤ q * 2 ^ (201 - n) := Nat.mul_le_mul_right _ hpq
  rw [← h2.2.2.2.2, ← h3.2.2.2.2] at e
  by_cases c : s < s' ∨ (s = s' ∧ f ≤ f')
  · exact c
  · have := str_lt (s := s') (s' := s) (F := f' * 2 ^ 64) (F' := f * 2 ^ 64) (by omega) (by omega) (by omega) (by omega) h'.F.1 h'.F.2 h.F.1 h.F.2 (by omega)
    omega
end Go.Proofs.Ytnlbfomlfhigcaa.M
namespace Go.Proofs.Ytnlbfomlfhigcaa.M
open Go.RowKit Go.Proofs.YtnlbfomlfhigcaaW.PrintWords Go.Proofs.YtnlbfomlfhigcaaW.PrintLast Go.Proofs.YtnlbfomlfhigcaaW.PrintMore
theorem u64w (n : Int) : IntKind.u64.wrap n = n % 18446744073709551616 := by simp [IntKind.wrap, IntKind.bits, IntKind.signed]
theorem wrap64_id {n : Int} (h : -9223372036854775808 ≤ n) (h' : n ≤ 9223372036854775807) : wrap64 n = n := by unfold wrap64; omega
theorem p64 : (2 : Nat) ^ 64 = 18446744073709551616 := by decide
theorem p63 : (2 : Nat) ^ 63 = 9223372036854775808 := by decide
theorem cast_pow (j : Nat) : ((2 : Int) ^ j) = ((2 ^ j : Nat) : Int) := by simp
theorem shl_nat (x j : Nat) (hj : j ≤ 64) : shl .u64 (x : Int) (j : Int) = ((x * 2 ^ j % 2 ^ 64 : Nat) : Int) := by
  unfold shl
  rw [u64w, Int.toNat_natCast, Nat.min_eq_left (show j ≤ IntKind.u64.bits from hj), cast_pow, p64]
  omega
theorem shr_nat (x j : Nat) (hj : j ≤ 64) : shr .u64 (x : Int) (j : Int) = ((x / 2 ^ j : Nat) : Int) := by
  unfold shr
  rw [Int.toNat_natCast, Nat.min_eq_left (show j ≤ IntKind.u64.bits from hj), cast_pow]
  simp
theorem wraps_u64 (n : Int) (h₀ : 0 ≤ n) (h₁ : n < 2 ^ 64) : IntKind.u64.wrap n = n := by rw [u64w]; omega
theorem and_nat (a b : Nat) (ha : a < 2 ^ 64) (hb : b < 2 ^ 64) : Go.bits .and .u64 (a : Int) (b : Int) = ((a &&& b : Nat) : Int) :=
  (bits_nat .u64 64 (by decide) wraps_u64 a b ha hb).1
theorem or_nat (a b : Nat) (ha : a < 2 ^ 64) (hb : b < 2 ^ 64) : Go.bits .or .u64 (a : Int) (b : Int) = ((a ||| b : Nat) : Int) :=
  (bits_nat .u64 64 (by decide) wraps_u64 a b ha hb).2
theorem and_mask (a j : Nat) (ha : a < 2 ^ 64) (hj : j ≤ 64) : Go.bits .and .u64 (a : Int) ((2 ^ j - 1 : Nat) : Int) = ((a % 2 ^ j : Nat) : Int) := by
  have : 2 ^ j ≤ 2 ^ 64 := Nat.pow_le_pow_right (by decide) hj
  rw [and_nat a _ ha (by omega), Nat.and_two_pow_sub_one_eq_mod]
theorem or_add (a b i : Nat) (ha : a < 2 ^ 64) (hb : b < 2 ^ i) (hi : i ≤ 64) (hd : a % 2 ^ i = 0) : Go.bits .or .u64 (a : Int) (b : Int) = ((a + b : Nat) : Int) := by
  have : 2 ^ i ≤ 2 ^ 64 := Nat.pow_le_pow_right (by decide) hi
  rw [or_nat a b ha (by omega)]
  have hq : a = 2 ^ i * (a / 2 ^ i) := by
    have := Nat.div_add_mod a (2 ^ i)
    omega
  rw [hq, ← Nat.two_pow_add_eq_or_of_lt hb (a / 2 ^ i)]
theorem xor_all (a : Nat) (ha : a < 2 ^ 64) : Go.bits .xor .u64 18446744073709551615 (a : Int) = ((2 ^ 64 - 1 - a : Nat) : Int) := by
  have e : (18446744073709551615 : Int) = ((2 ^ 64 - 1 : Nat) : Int) := by decide
  unfold Go.bits
  rw [e]
  simp only [BitVec.ofInt_natCast]
  have h1 : BitVec.ofNat 64 (2 ^ 64 - 1) = BitVec.allOnes 64 := by rfl
  show IntKind.u64.wrap ((BitVec.ofNat 64 (2 ^ 64 - 1) ^^^ BitVec.ofNat 64 a).toNat : Nat) = _
  rw [h1, BitVec.allOnes_xor, BitVec.toNat_not, BitVec.toNat_ofNat, Nat.mod_eq_of_lt ha, u64w, p64]
  rw [p64] at ha
  omega
theorem mn_nat (a b : Nat) : mn (a : Int) (b : Int) = ((min a b : Nat) : Int) := by unfold mn; omega
end Go.Proofs.Ytnlbfomlfhigcaa.M
namespace Go.Proofs.Ytnlbfomlfhigcaa.M
open Go.RowKit Go.Proofs.YtnlbfomlfhigcaaW.PrintWords Go.Proofs.YtnlbfomlfhigcaaW.PrintLast Go.Proofs.YtnlbfomlfhigcaaW.PrintMore Go.Proofs.Ytnlbfomlfhigcaa.Q
theorem is_yes {n : Nat} (h : Wd n) : shape_is.f (n : Int) = some true := by rcases h with rfl | rfl | rfl | rfl <;> decide +kernel
theorem is_no {n : Int} (h : ¬ (n = 8 ∨ n = 16 ∨ n = 32 ∨ n = 64)) : shape_is.f n = some false := by
  unfold shape_is.f
  rw [if_neg (by omega), if_neg (by omega), if_neg (by omega), if_neg (by omega)]
theorem of_yes {n : Nat} (h : Wd n) : shape_Of.f (n : Int) = some ((n : Int), ((2 ^ (n - 1) - 1 : Nat) : Int), 1, ((2 ^ (n - 1) : Nat) : Int), 4 * (n : Int) - 8, none) := by rcases h with rfl | rfl | rfl | rfl <;> decide +kernel
theorem mask_yes {n : Nat} (h : Wd n) : lead_Mask.f (n : Int) = some (((2 ^ n - 1 : Nat) : Int), none) := by rcases h with rfl | rfl | rfl | rfl <;> decide +kernel
theorem fold_yes {n : Nat} (h : Wd n) {x : Nat} (hx : x < 2 ^ 64) : shape_Fold.f (n : Int) (x : Int) = some (((x % 2 ^ n : Nat) : Int), none) := by
  unfold shape_Fold.f
  rw [is_yes h]
  simp only [Option.bind_some, if_true]
  rw [mask_yes h]
  simp only [Option.bind_some]
  rw [and_mask x n hx (by have := h.bd; omega)]
theorem fold_no {n : Int} (h : ¬ (n = 8 ∨ n = 16 ∨ n = 32 ∨ n = 64)) (x : Int) : shape_Fold.f n x = some (0, some 2) := by
  unfold shape_Fold.f
  rw [is_no h]
  rfl
theorem high_eq {n : Nat} (h : Wd n) : 0 ≤ wrap64 ((n : Int) - 1) ∧ shl .u64 1 (wrap64 ((n : Int) - 1)) = ((2 ^ (n - 1) : Nat) : Int) := by rcases h with rfl | rfl | rfl | rfl <;> decide +kernel
def knd (n y : Nat) : Nat := if y = 0 then 0 else if y = 2 ^ (n - 1) then 2 else 1
theorem kind_yes {n : Nat} (h : Wd n) {x : Nat} (hx : x < 2 ^ 64) : shape_Kind.f (n : Int) (x : Int) = some (((knd n (x % 2 ^ n) : Nat) : Int), none) := by
  unfold shape_Kind.f
  rw [fold_yes h hx]
  simp only [Option.bind_some, Option.isNone_none, if_true]
  generalize x % 2 ^ n = y
  rw [if_pos (high_eq h).1, (high_eq h).2]
  unfold knd
  by_cases e : y = 0
  · rw [if_pos e, if_pos (by omega)]; rfl
  · rw [if_neg e, if_neg (by omega)]
    by_cases e2 : y = 2 ^ (n - 1)
    · rw [if_pos e2, if_pos (by rw [e2])]; rfl
    · rw [if_neg e2, if_neg (by omega)]; rfl
theorem kind_no {n : Int} (h : ¬ (n = 8 ∨ n = 16 ∨ n = 32 ∨ n = 64)) (x : Int) : shape_Kind.f n x = some (0, some 2) := by
  unfold shape_Kind.f
  rw [fold_no h]
  rfl
def rk (n y : Nat) : Int := if y < 2 ^ (n - 1) then (y : Int) else (y : Int) - (2 ^ n : Nat)
theorem rank_yes {n : Nat} (h : Wd n) (x : Nat) : shape_Rank.f (n : Int) (x : Int) = some (rk n (x % 2 ^ n), none) := by
  unfold shape_Rank.f
  rw [is_yes h]
  simp only [Option.bind_some, if_true]
  unfold lead_Extend.f
  have e1 : ¬ (n : Int) < 1 := by have := h.bd; omega
  have e2 : ¬ (n : Int) > 64 := by have := h.bd; omega
  have e3 : wrap64 (64 - (n : Int)) = ((64 - n : Nat) : Int) := by have := h.bd; unfold wrap64; omega
  rw [if_neg e1, if_neg e2, e3, if_pos (by omega), shl_nat x (64 - n) (by omega)]
  simp only [Option.bind_some]
  congr 2
  unfold shr rk
  rw [Int.toNat_natCast, Nat.min_eq_left (show 64 - n ≤ IntKind.i64.bits from by show _ ≤ 64; omega), cast_pow]
  unfold wrap64
  rcases h with rfl | rfl | rfl | rfl <;> simp only [Nat.reduceSub, Nat.reducePow] <;> split <;> omega
theorem ones_nat {j : Nat} (hj : j ≤ 64) : lead_ones.f (j : Int) = some ((2 ^ j - 1 : Nat) : Int) := by
  unfold lead_ones.f
  by_cases e : j = 64
  · subst e; decide
  · rw [if_neg (by omega), if_pos (by omega)]
    have : shl .u64 1 (j : Int) = ((2 ^ j : Nat) : Int) := by
      have h1 := shl_nat 1 j (by omega)
      rw [Nat.one_mul, Nat.mod_eq_of_lt (Nat.pow_lt_pow_right (by decide) (by omega))] at h1
      exact h1
    rw [this, u64w]
    have h2 : 2 ^ j < 2 ^ 64 := Nat.pow_lt_pow_right (by decide) (by omega)
    have h3 := pow_pos j
    rw [p64] at h2
    congr 1
    omega
theorem field_nat {x a j : Nat} (hx : x < 2 ^ 64) (ha : a ≤ 64) (hj : j ≤ 64 - a) : lead_Field.f (x : Int) (a : Int) (j : Int) = some (((x / 2 ^ a % 2 ^ j : Nat) : Int), none) := by
  unfold lead_Field.f
  have e : lead_field.f (a : Int) (j : Int) = some true := by
    unfold lead_field.f
    rw [if_pos (by omega), if_pos (by omega), if_pos (by omega)]
    congr 1
    simp only [decide_eq_true_eq]
    unfold wrap64
    omega
  rw [e]
  simp only [Option.bind_some, if_true]
  rw [if_pos (by omega), ones_nat (by omega), shr_nat x a ha]
  simp only [Option.bind_some]
  rw [and_mask _ j (Nat.lt_of_le_of_lt (Nat.div_le_self _ _) hx) (by omega)]
end Go.Proofs.Ytnlbfomlfhigcaa.M
