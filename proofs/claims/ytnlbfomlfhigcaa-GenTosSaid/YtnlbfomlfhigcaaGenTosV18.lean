/- Walks and plain laws that the claim stands on: each theorem named calls says that a call of a function returns what its f computes; the others are plain laws of these f, and the words that the walks use. -/
import Derived.Test.YtnlbfomlfhigcaaGenTosV2
import Derived.Test.YtnlbfomlfhigcaaGenTosV7
import Derived.Test.YtnlbfomlfhigcaaGenTosV12
import Derived.Test.YtnlbfomlfhigcaaGenTosV17
namespace Go.Proofs.Ytnlbfomlfhigcaa.Q
open Go.RowKit Go.Proofs.YtnlbfomlfhigcaaW.PrintWords Go.Proofs.YtnlbfomlfhigcaaW.PrintLast Go.Proofs.YtnlbfomlfhigcaaW.PrintMore
attribute [local go_sem] max2_int min2_int max_two min_two max_three min_three max_four min_four
set_option linter.unusedVariables false
set_option linter.unusedSimpArgs false
mutual
def vernierlaw14_GenTos.j0 : Nat → Int → Bool → Int → Int → Int → Bool → Option (Bool)
 | 0, _, _, _, _, _, _ => none
 | k + 1, x0, x3, x5, x6, x7, x8 => (gen_P16_39.f k x5).bind fun t520 => ((vernierref14_Convert.f k 16 8 x0).bind fun t521 => (if (IntKind.u64.wrap (t520)) = t521 then ((gen_P16_24.f k x5).bind fun t522 => ((vernierref14_Convert.f k 16 32 x0).bind fun t523 => (if (IntKind.u64.wrap (t522)) = t523 then ((gen_P16_20.f k x5).bind fun t524 => ((vernierref14_Convert.f k 16 64 x0).bind fun t525 => (vernierlaw14_GenTos.j1 k x0 x3 x6 x7 x8 (t524 == t525)))) else (vernierlaw14_GenTos.j1 k x0 x3 x6 x7 x8 false)))) else (vernierlaw14_GenTos.j1 k x0 x3 x6 x7 x8 false)))
def vernierlaw14_GenTos.j1 : Nat → Int → Bool → Int → Int → Bool → Bool → Option (Bool)
 | 0, _, _, _, _, _, _ => none
 | k + 1, x0, x3, x6, x7, x8, x9 => (gen_P32_40.f k x6).bind fun t526 => ((vernierref14_Convert.f k 32 8 x0).bind fun t527 => (if (IntKind.u64.wrap (t526)) = t527 then ((gen_P32_41.f k x6).bind fun t528 => ((vernierref14_Convert.f k 32 16 x0).bind fun t529 => (if (IntKind.u64.wrap (t528)) = t529 then ((gen_P32_42.f k x6).bind fun t530 => ((vernierref14_Convert.f k 32 64 x0).bind fun t531 => (vernierlaw14_GenTos.j2 k x0 x3 x7 x8 x9 (t530 == t531)))) else (vernierlaw14_GenTos.j2 k x0 x3 x7 x8 x9 false)))) else (vernierlaw14_GenTos.j2 k x0 x3 x7 x8 x9 false)))
def vernierlaw14_GenTos.j2 : Nat → Int → Bool → Int → Bool → Bool → Bool → Option (Bool)
 | 0, _, _, _, _, _, _ => none
 | k + 1, x0, x3, x7, x8, x9, x10 => (gen_P64_12.f k x7).bind fun t532 => ((vernierref14_Convert.f k 64 8 x0).bind fun t533 => (if (IntKind.u64.wrap (t532)) = t533 then ((gen_P64_19.f k x7).bind fun t534 => ((vernierref14_Convert.f k 64 16 x0).bind fun t535 => (if (IntKind.u64.wrap (t534)) = t535 then ((gen_P64_43.f k x7).bind fun t536 => ((vernierref14_Convert.f k 64 32 x0).bind fun t537 => (if x3 = true then (if x8 = true then (if x9 = true then (if x10 = true then (if (IntKind.u64.wrap (t536)) = t537 then ((gen_P64_44.f k x7).bind fun t538 => (some (t538 == x7))) else (some false)) else (some false)) else (some false)) else (some false)) else (some false)))) else (if x3 = true then (if x8 = true then (if x9 = true then (if x10 = true then (some false) else (some false)) else (some false)) else (some false)) else (some false))))) else (if x3 = true then (if x8 = true then (if x9 = true then (if x10 = true then (some false) else (some false)) else (some false)) else (some false)) else (some false))))
end
def vernierlaw14_GenTos.f (k : Nat) (a0 : Int) : Option (Bool) := (vernierlaw14_up.f k).bind fun t513 => ((gen_P8_36.f k ((a0) % 256)).bind fun t514 => ((vernierref14_Convert.f k 8 16 a0).bind fun t515 => (if (IntKind.u64.wrap (t514)) = t515 then ((gen_P8_38.f k ((a0) % 256)).bind fun t516 => ((vernierref14_Convert.f k 8 32 a0).bind fun t517 => (if (IntKind.u64.wrap (t516)) = t517 then ((gen_P8_11.f k ((a0) % 256)).bind fun t518 => ((vernierref14_Convert.f k 8 64 a0).bind fun t519 => (vernierlaw14_GenTos.j0 k a0 t513 (IntKind.u16.wrap (a0)) ((a0) % 4294967296) a0 (t518 == t519)))) else (vernierlaw14_GenTos.j0 k a0 t513 (IntKind.u16.wrap (a0)) ((a0) % 4294967296) a0 false)))) else (vernierlaw14_GenTos.j0 k a0 t513 (IntKind.u16.wrap (a0)) ((a0) % 4294967296) a0 false))))
set_option maxHeartbeats 8000000 in
set_option maxRecDepth 100000 in
theorem vernierlaw14_GenTos.calls (k : Nat) (a0 : Int) (r : Bool) (w : World) (h : vernierlaw14_GenTos.f k a0 = some r) :
  Calls Try.prog 5 #[.int .u64 a0] w fun e w' => e = .returned (.bool r) ∧ Below w.heap.size w w' := by
 have HB := Aside0.mk (Below.refl w.heap.size w)
 have H := h
 clear h
 unfold vernierlaw14_GenTos.f at H
 replace H := Option.bind_eq_some_iff.mp H
 obtain ⟨t513, A20, H⟩ := H
 try dsimp only at H
 have A2 := Aside0.mk A20
 clear A20
 have HC3 := Aside0.mk H
 clear H
 go_enter Try.func5, Try.ntmps5
 go_upto_region 6 with (first | ((with_reducible refine gate_callee (f := 35) rfl ?_); refine goA (some 12) Try.func35 (vernierlaw14_up.calls k  t513 _ A2.out) ?_; intro w4 hb; replace HB := hbS hb; clear hb))
 (try simp only [Act.put, List.setIfInBounds_toArray, List.set_cons_zero, List.set_cons_succ])
 go_cut [8] (fun v8 wc => ∃ (kq : Nat) (x8_2 : Bool), v8 = .bool x8_2 ∧ Aside0 (vernierlaw14_GenTos.j0 kq a0 t513 (IntKind.u16.wrap (a0)) ((a0) % 4294967296) a0 x8_2 = some r) ∧ Aside0 (kq ≤ k) ∧ Aside0 (Below w.heap.size w wc))
 case first =>
  have H := HC3.out
  clear HC3
  replace H := Option.bind_eq_some_iff.mp H
  obtain ⟨t514, A50, H⟩ := H
  try dsimp only at H
  have A5 := Aside0.mk A50
  clear A50
  replace H := Option.bind_eq_some_iff.mp H
  obtain ⟨t515, A60, H⟩ := H
  try dsimp only at H
  have A6 := Aside0.mk A60
  clear A60
  by_cases c7 : (IntKind.u64.wrap (t514)) = t515
  ·rw [if_pos c7] at H
   obtain ⟨c7b0, c7b1⟩ := eqY c7
   clear c7
   (first | rw [c7b0] | (simp only [i64_w, i32_w]; rw [c7b0]) | rw [c7b1] | skip)
   replace H := Option.bind_eq_some_iff.mp H
   obtain ⟨t516, A80, H⟩ := H
   try dsimp only at H
   have A8 := Aside0.mk A80
   clear A80
   replace H := Option.bind_eq_some_iff.mp H
   obtain ⟨t517, A90, H⟩ := H
   try dsimp only at H
   have A9 := Aside0.mk A90
   clear A90
   by_cases c10 : (IntKind.u64.wrap (t516)) = t517
   ·rw [if_pos c10] at H
    obtain ⟨c10b0, c10b1⟩ := eqY c10
    clear c10
    replace H := Option.bind_eq_some_iff.mp H
    obtain ⟨t518, A110, H⟩ := H
    try dsimp only at H
    have A11 := Aside0.mk A110
    clear A110
    replace H := Option.bind_eq_some_iff.mp H
    obtain ⟨t519, A120, H⟩ := H
    try dsimp only at H
    have A12 := Aside0.mk A120
    clear A120
    have H' := Aside0.mk H
    clear H
    go_wp2_with (first | ((with_reducible refine gate_callee (f := 36) rfl ?_); refine goA (some 21) Try.func36 (gen_P8_36.calls k ((a0) % 256) t514 _ A5.out) ?_; intro w13 hb; replace HB := hbS hb; clear hb) | ((with_reducible refine gate_callee (f := 37) rfl ?_); refine goA (some 24) Try.func37 (vernierref14_Convert.calls k 8 16 a0 t515 _ A6.out) ?_; intro w14 hb; replace HB := hbS hb; clear hb) | (go_at_call 38; (with_reducible refine (gen_P8_38.calls k ((a0) % 256) t516 _ A8.out).mono ?_); rintro e w15 ⟨rfl, hb⟩; replace HB := hbS hb; (try clear hb); (try clear hb2); (try clear hk); (try clear hi)) | (go_at_call 37; (with_reducible refine (vernierref14_Convert.calls k 8 32 a0 t517 _ A9.out).mono ?_); rintro e w16 ⟨rfl, hb⟩; replace HB := hbS hb; (try clear hb); (try clear hb2); (try clear hk); (try clear hi)) | (go_at_call 11; (with_reducible refine (gen_P8_11.calls k ((a0) % 256) t518 _ A11.out).mono ?_); rintro e w17 ⟨rfl, hb⟩; replace HB := hbS hb; (try clear hb); (try clear hb2); (try clear hk); (try clear hi)) | (go_at_call 37; (with_reducible refine (vernierref14_Convert.calls k 8 64 a0 t519 _ A12.out).mono ?_); rintro e w18 ⟨rfl, hb⟩; replace HB := hbS hb; (try clear hb); (try clear hb2); (try clear hk); (try clear hi)))
    go_meet
    case rel => exact ⟨_, ((t518 == t519)), okT, H', leT, ⟨hbT⟩⟩
   ·rw [if_neg c10] at H
    obtain ⟨c10b0, c10b1⟩ := eqN c10
    have H' := Aside0.mk H
    clear H
    go_wp2_with (first | ((with_reducible refine gate_callee (f := 36) rfl ?_); refine goA (some 21) Try.func36 (gen_P8_36.calls k ((a0) % 256) t514 _ A5.out) ?_; intro w19 hb; replace HB := hbS hb; clear hb) | ((with_reducible refine gate_callee (f := 37) rfl ?_); refine goA (some 24) Try.func37 (vernierref14_Convert.calls k 8 16 a0 t515 _ A6.out) ?_; intro w20 hb; replace HB := hbS hb; clear hb) | (go_at_call 38; (with_reducible refine (gen_P8_38.calls k ((a0) % 256) t516 _ A8.out).mono ?_); rintro e w21 ⟨rfl, hb⟩; replace HB := hbS hb; (try clear hb); (try clear hb2); (try clear hk); (try clear hi)) | (go_at_call 37; (with_reducible refine (vernierref14_Convert.calls k 8 32 a0 t517 _ A9.out).mono ?_); rintro e w22 ⟨rfl, hb⟩; replace HB := hbS hb; (try clear hb); (try clear hb2); (try clear hk); (try clear hi)))
    go_meet
    case rel => exact ⟨_, (false), okT, H', leT, ⟨hbT⟩⟩
  ·rw [if_neg c7] at H
   obtain ⟨c7b0, c7b1⟩ := eqN c7
   (first | rw [c7b0] | (simp only [i64_w, i32_w]; rw [c7b0]) | rw [c7b1] | skip)
   have H' := Aside0.mk H
   clear H
   go_wp2_with (first | ((with_reducible refine gate_callee (f := 36) rfl ?_); refine goA (some 21) Try.func36 (gen_P8_36.calls k ((a0) % 256) t514 _ A5.out) ?_; intro w23 hb; replace HB := hbS hb; clear hb) | ((with_reducible refine gate_callee (f := 37) rfl ?_); refine goA (some 24) Try.func37 (vernierref14_Convert.calls k 8 16 a0 t515 _ A6.out) ?_; intro w24 hb; replace HB := hbS hb; clear hb))
   go_meet
   case rel => exact ⟨_, (false), okT, H', leT, ⟨hbT⟩⟩
 case rest =>
  clear HC3
  obtain ⟨kq, x8_2, rfl, HA, HJ2, HB⟩ := hcut
  cases kq with
  | zero => exact absurd HA.out (by simp [vernierlaw14_GenTos.j0])
  | succ kj2 =>
   have H := HA.out
   clear HA
   simp only [vernierlaw14_GenTos.j0] at H
   have HC25 := Aside0.mk H
   clear H
   go_upto_region 7 with (fail)
   go_cut [9] (fun v9 wc => ∃ (kq : Nat) (x9_24 : Bool), v9 = .bool x9_24 ∧ Aside0 (vernierlaw14_GenTos.j1 kq a0 t513 ((a0) % 4294967296) a0 x8_2 x9_24 = some r) ∧ Aside0 (kq ≤ kj2) ∧ Aside0 (Below w.heap.size w wc))
   case first =>
    have H := HC25.out
    clear HC25
    replace H := Option.bind_eq_some_iff.mp H
    obtain ⟨t520, A260, H⟩ := H
    try dsimp only at H
    have A26 := Aside0.mk A260
    clear A260
    replace H := Option.bind_eq_some_iff.mp H
    obtain ⟨t521, A270, H⟩ := H
    try dsimp only at H
    have A27 := Aside0.mk A270
    clear A270
    by_cases c28 : (IntKind.u64.wrap (t520)) = t521
    ·rw [if_pos c28] at H
     obtain ⟨c28b0, c28b1⟩ := eqY c28
     clear c28
     (first | rw [c28b0] | (simp only [i64_w, i32_w]; rw [c28b0]) | rw [c28b1] | skip)
     replace H := Option.bind_eq_some_iff.mp H
     obtain ⟨t522, A290, H⟩ := H
     try dsimp only at H
     have A29 := Aside0.mk A290
     clear A290
     replace H := Option.bind_eq_some_iff.mp H
     obtain ⟨t523, A300, H⟩ := H
     try dsimp only at H
     have A30 := Aside0.mk A300
     clear A300
     by_cases c31 : (IntKind.u64.wrap (t522)) = t523
     ·rw [if_pos c31] at H
      obtain ⟨c31b0, c31b1⟩ := eqY c31
      clear c31
      replace H := Option.bind_eq_some_iff.mp H
      obtain ⟨t524, A320, H⟩ := H
      try dsimp only at H
      have A32 := Aside0.mk A320
      clear A320
      replace H := Option.bind_eq_some_iff.mp H
      obtain ⟨t525, A330, H⟩ := H
      try dsimp only at H
      have A33 := Aside0.mk A330
      clear A330
      have H' := Aside0.mk H
      clear H
      go_wp2_with (first | ((with_reducible refine gate_callee (f := 39) rfl ?_); refine goA (some 42) Try.func39 (gen_P16_39.calls kj2 (IntKind.u16.wrap (a0)) t520 _ A26.out) ?_; intro w34 hb; replace HB := hbS hb; clear hb) | ((with_reducible refine gate_callee (f := 37) rfl ?_); refine goA (some 45) Try.func37 (vernierref14_Convert.calls kj2 16 8 a0 t521 _ A27.out) ?_; intro w35 hb; replace HB := hbS hb; clear hb) | (go_at_call 24; (with_reducible refine (gen_P16_24.calls kj2 (IntKind.u16.wrap (a0)) t522 _ A29.out).mono ?_); rintro e w36 ⟨rfl, hb⟩; replace HB := hbS hb; (try clear hb); (try clear hb2); (try clear hk); (try clear hi)) | (go_at_call 37; (with_reducible refine (vernierref14_Convert.calls kj2 16 32 a0 t523 _ A30.out).mono ?_); rintro e w37 ⟨rfl, hb⟩; replace HB := hbS hb; (try clear hb); (try clear hb2); (try clear hk); (try clear hi)) | (go_at_call 20; (with_reducible refine (gen_P16_20.calls kj2 (IntKind.u16.wrap (a0)) t524 _ A32.out).mono ?_); rintro e w38 ⟨rfl, hb⟩; replace HB := hbS hb; (try clear hb); (try clear hb2); (try clear hk); (try clear hi)) | (go_at_call 37; (with_reducible refine (vernierref14_Convert.calls kj2 16 64 a0 t525 _ A33.out).mono ?_); rintro e w39 ⟨rfl, hb⟩; replace HB := hbS hb; (try clear hb); (try clear hb2); (try clear hk); (try clear hi)))
      go_meet
      case rel => exact ⟨_, ((t524 == t525)), okT, H', ⟨by have := HJ2.out; first | omega | exact Nat.le_refl _⟩, ⟨hbT⟩⟩
     ·rw [if_neg c31] at H
      obtain ⟨c31b0, c31b1⟩ := eqN c31
      have H' := Aside0.mk H
      clear H
      go_wp2_with (first | ((with_reducible refine gate_callee (f := 39) rfl ?_); refine goA (some 42) Try.func39 (gen_P16_39.calls kj2 (IntKind.u16.wrap (a0)) t520 _ A26.out) ?_; intro w40 hb; replace HB := hbS hb; clear hb) | ((with_reducible refine gate_callee (f := 37) rfl ?_); refine goA (some 45) Try.func37 (vernierref14_Convert.calls kj2 16 8 a0 t521 _ A27.out) ?_; intro w41 hb; replace HB := hbS hb; clear hb) | (go_at_call 24; (with_reducible refine (gen_P16_24.calls kj2 (IntKind.u16.wrap (a0)) t522 _ A29.out).mono ?_); rintro e w42 ⟨rfl, hb⟩; replace HB := hbS hb; (try clear hb); (try clear hb2); (try clear hk); (try clear hi)) | (go_at_call 37; (with_reducible refine (vernierref14_Convert.calls kj2 16 32 a0 t523 _ A30.out).mono ?_); rintro e w43 ⟨rfl, hb⟩; replace HB := hbS hb; (try clear hb); (try clear hb2); (try clear hk); (try clear hi)))
      go_meet
      case rel => exact ⟨_, (false), okT, H', ⟨by have := HJ2.out; first | omega | exact Nat.le_refl _⟩, ⟨hbT⟩⟩
    ·rw [if_neg c28] at H
     obtain ⟨c28b0, c28b1⟩ := eqN c28
     (first | rw [c28b0] | (simp only [i64_w, i32_w]; rw [c28b0]) | rw [c28b1] | skip)
     have H' := Aside0.mk H
     clear H
     go_wp2_with (first | ((with_reducible refine gate_callee (f := 39) rfl ?_); refine goA (some 42) Try.func39 (gen_P16_39.calls kj2 (IntKind.u16.wrap (a0)) t520 _ A26.out) ?_; intro w44 hb; replace HB := hbS hb; clear hb) | ((with_reducible refine gate_callee (f := 37) rfl ?_); refine goA (some 45) Try.func37 (vernierref14_Convert.calls kj2 16 8 a0 t521 _ A27.out) ?_; intro w45 hb; replace HB := hbS hb; clear hb))
     go_meet
     case rel => exact ⟨_, (false), okT, H', ⟨by have := HJ2.out; first | omega | exact Nat.le_refl _⟩, ⟨hbT⟩⟩
   case rest =>
    clear HC25
    obtain ⟨kq, x9_24, rfl, HA, HJ24, HB⟩ := hcut
    cases kq with
    | zero => exact absurd HA.out (by simp [vernierlaw14_GenTos.j1])
    | succ kj24 =>
     have H := HA.out
     clear HA
     simp only [vernierlaw14_GenTos.j1] at H
     have HC46 := Aside0.mk H
     clear H
     go_upto_region 8 with (fail)
     go_cut [10] (fun v10 wc => ∃ (kq : Nat) (x10_45 : Bool), v10 = .bool x10_45 ∧ Aside0 (vernierlaw14_GenTos.j2 kq a0 t513 a0 x8_2 x9_24 x10_45 = some r) ∧ Aside0 (kq ≤ kj24) ∧ Aside0 (Below w.heap.size w wc))
     case first =>
      have H := HC46.out
      clear HC46
      replace H := Option.bind_eq_some_iff.mp H
      obtain ⟨t526, A470, H⟩ := H
      try dsimp only at H
      have A47 := Aside0.mk A470
      clear A470
      replace H := Option.bind_eq_some_iff.mp H
      obtain ⟨t527, A480, H⟩ := H
      try dsimp only at H
      have A48 := Aside0.mk A480
      clear A480
      by_cases c49 : (IntKind.u64.wrap (t526)) = t527
      ·rw [if_pos c49] at H
       obtain ⟨c49b0, c49b1⟩ := eqY c49
       clear c49
       (first | rw [c49b0] | (simp only [i64_w, i32_w]; rw [c49b0]) | rw [c49b1] | skip)
       replace H := Option.bind_eq_some_iff.mp H
       obtain ⟨t528, A500, H⟩ := H
       try dsimp only at H
       have A50 := Aside0.mk A500
       clear A500
       replace H := Option.bind_eq_some_iff.mp H
       obtain ⟨t529, A510, H⟩ := H
       try dsimp only at H
       have A51 := Aside0.mk A510
       clear A510
       by_cases c52 : (IntKind.u64.wrap (t528)) = t529
       ·rw [if_pos c52] at H
        obtain ⟨c52b0, c52b1⟩ := eqY c52
        clear c52
        replace H := Option.bind_eq_some_iff.mp H
        obtain ⟨t530, A530, H⟩ := H
        try dsimp only at H
        have A53 := Aside0.mk A530
        clear A530
        replace H := Option.bind_eq_some_iff.mp H
        obtain ⟨t531, A540, H⟩ := H
        try dsimp only at H
        have A54 := Aside0.mk A540
        clear A540
        have H' := Aside0.mk H
        clear H
        go_wp2_with (first | ((with_reducible refine gate_callee (f := 40) rfl ?_); refine goA (some 63) Try.func40 (gen_P32_40.calls kj24 ((a0) % 4294967296) t526 _ A47.out) ?_; intro w55 hb; replace HB := hbS hb; clear hb) | ((with_reducible refine gate_callee (f := 37) rfl ?_); refine goA (some 66) Try.func37 (vernierref14_Convert.calls kj24 32 8 a0 t527 _ A48.out) ?_; intro w56 hb; replace HB := hbS hb; clear hb) | (go_at_call 41; (with_reducible refine (gen_P32_41.calls kj24 ((a0) % 4294967296) t528 _ A50.out).mono ?_); rintro e w57 ⟨rfl, hb⟩; replace HB := hbS hb; (try clear hb); (try clear hb2); (try clear hk); (try clear hi)) | (go_at_call 37; (with_reducible refine (vernierref14_Convert.calls kj24 32 16 a0 t529 _ A51.out).mono ?_); rintro e w58 ⟨rfl, hb⟩; replace HB := hbS hb; (try clear hb); (try clear hb2); (try clear hk); (try clear hi)) | (go_at_call 42; (with_reducible refine (gen_P32_42.calls kj24 ((a0) % 4294967296) t530 _ A53.out).mono ?_); rintro e w59 ⟨rfl, hb⟩; replace HB := hbS hb; (try clear hb); (try clear hb2); (try clear hk); (try clear hi)) | (go_at_call 37; (with_reducible refine (vernierref14_Convert.calls kj24 32 64 a0 t531 _ A54.out).mono ?_); rintro e w60 ⟨rfl, hb⟩; replace HB := hbS hb; (try clear hb); (try clear hb2); (try clear hk); (try clear hi)))
        go_meet
        case rel => exact ⟨_, ((t530 == t531)), okT, H', ⟨by have := HJ2.out; have := HJ24.out; first | omega | exact Nat.le_refl _⟩, ⟨hbT⟩⟩
       ·rw [if_neg c52] at H
        obtain ⟨c52b0, c52b1⟩ := eqN c52
        have H' := Aside0.mk H
        clear H
        go_wp2_with (first | ((with_reducible refine gate_callee (f := 40) rfl ?_); refine goA (some 63) Try.func40 (gen_P32_40.calls kj24 ((a0) % 4294967296) t526 _ A47.out) ?_; intro w61 hb; replace HB := hbS hb; clear hb) | ((with_reducible refine gate_callee (f := 37) rfl ?_); refine goA (some 66) Try.func37 (vernierref14_Convert.calls kj24 32 8 a0 t527 _ A48.out) ?_; intro w62 hb; replace HB := hbS hb; clear hb) | (go_at_call 41; (with_reducible refine (gen_P32_41.calls kj24 ((a0) % 4294967296) t528 _ A50.out).mono ?_); rintro e w63 ⟨rfl, hb⟩; replace HB := hbS hb; (try clear hb); (try clear hb2); (try clear hk); (try clear hi)) | (go_at_call 37; (with_reducible refine (vernierref14_Convert.calls kj24 32 16 a0 t529 _ A51.out).mono ?_); rintro e w64 ⟨rfl, hb⟩; replace HB := hbS hb; (try clear hb); (try clear hb2); (try clear hk); (try clear hi)))
        go_meet
        case rel => exact ⟨_, (false), okT, H', ⟨by have := HJ2.out; have := HJ24.out; first | omega | exact Nat.le_refl _⟩, ⟨hbT⟩⟩
      ·rw [if_neg c49] at H
       obtain ⟨c49b0, c49b1⟩ := eqN c49
       (first | rw [c49b0] | (simp only [i64_w, i32_w]; rw [c49b0]) | rw [c49b1] | skip)
       have H' := Aside0.mk H
       clear H
       go_wp2_with (first | ((with_reducible refine gate_callee (f := 40) rfl ?_); refine goA (some 63) Try.func40 (gen_P32_40.calls kj24 ((a0) % 4294967296) t526 _ A47.out) ?_; intro w65 hb; replace HB := hbS hb; clear hb) | ((with_reducible refine gate_callee (f := 37) rfl ?_); refine goA (some 66) Try.func37 (vernierref14_Convert.calls kj24 32 8 a0 t527 _ A48.out) ?_; intro w66 hb; replace HB := hbS hb; clear hb))
       go_meet
       case rel => exact ⟨_, (false), okT, H', ⟨by have := HJ2.out; have := HJ24.out; first | omega | exact Nat.le_refl _⟩, ⟨hbT⟩⟩
     case rest =>
      clear HC46
      obtain ⟨kq, x10_45, rfl, HA, HJ45, HB⟩ := hcut
      cases kq with
      | zero => exact absurd HA.out (by simp [vernierlaw14_GenTos.j2])
      | succ kj45 =>
       have H := HA.out
       clear HA
       simp only [vernierlaw14_GenTos.j2] at H
       replace H := Option.bind_eq_some_iff.mp H
       obtain ⟨t532, A670, H⟩ := H
       try dsimp only at H
       have A67 := Aside0.mk A670
       clear A670
       replace H := Option.bind_eq_some_iff.mp H
       obtain ⟨t533, A680, H⟩ := H
       try dsimp only at H
       have A68 := Aside0.mk A680
       clear A680
       by_cases c69 : (IntKind.u64.wrap (t532)) = t533
       ·rw [if_pos c69] at H
        obtain ⟨c69b0, c69b1⟩ := eqY c69
        clear c69
        replace H := Option.bind_eq_some_iff.mp H
        obtain ⟨t534, A700, H⟩ := H
        try dsimp only at H
        have A70 := Aside0.mk A700
        clear A700
        replace H := Option.bind_eq_some_iff.mp H
        obtain ⟨t535, A710, H⟩ := H
        try dsimp only at H
        have A71 := Aside0.mk A710
        clear A710
        by_cases c72 : (IntKind.u64.wrap (t534)) = t535
        ·rw [if_pos c72] at H
         obtain ⟨c72b0, c72b1⟩ := eqY c72
         clear c72
         replace H := Option.bind_eq_some_iff.mp H
         obtain ⟨t536, A730, H⟩ := H
         try dsimp only at H
         have A73 := Aside0.mk A730
         clear A730
         replace H := Option.bind_eq_some_iff.mp H
         obtain ⟨t537, A740, H⟩ := H
         try dsimp only at H
         have A74 := Aside0.mk A740
         clear A740
         by_cases c75 : t513 = true
         ·subst c75
          rw [if_pos rfl] at H
          by_cases c76 : x8_2 = true
          ·subst c76
           rw [if_pos rfl] at H
           by_cases c77 : x9_24 = true
           ·subst c77
            rw [if_pos rfl] at H
            by_cases c78 : x10_45 = true
            ·subst c78
             rw [if_pos rfl] at H
             by_cases c79 : (IntKind.u64.wrap (t536)) = t537
             ·rw [if_pos c79] at H
              obtain ⟨c79b0, c79b1⟩ := eqY c79
              clear c79
              replace H := Option.bind_eq_some_iff.mp H
              obtain ⟨t538, A800, H⟩ := H
              try dsimp only at H
              have A80 := Aside0.mk A800
              clear A800
              obtain rfl := Option.some.inj H
              go_wp2_with (first | ((with_reducible refine gate_callee (f := 12) rfl ?_); refine goA (some 84) Try.func12 (gen_P64_12.calls kj45 a0 t532 _ A67.out) ?_; intro w81 hb; replace HB := hbS hb; clear hb) | ((with_reducible refine gate_callee (f := 37) rfl ?_); refine goA (some 87) Try.func37 (vernierref14_Convert.calls kj45 64 8 a0 t533 _ A68.out) ?_; intro w82 hb; replace HB := hbS hb; clear hb) | (go_at_call 19; (with_reducible refine (gen_P64_19.calls kj45 a0 t534 _ A70.out).mono ?_); rintro e w83 ⟨rfl, hb⟩; replace HB := hbS hb; (try clear hb); (try clear hb2); (try clear hk); (try clear hi)) | (go_at_call 37; (with_reducible refine (vernierref14_Convert.calls kj45 64 16 a0 t535 _ A71.out).mono ?_); rintro e w84 ⟨rfl, hb⟩; replace HB := hbS hb; (try clear hb); (try clear hb2); (try clear hk); (try clear hi)) | (go_at_call 43; (with_reducible refine (gen_P64_43.calls kj45 a0 t536 _ A73.out).mono ?_); rintro e w85 ⟨rfl, hb⟩; replace HB := hbS hb; (try clear hb); (try clear hb2); (try clear hk); (try clear hi)) | (go_at_call 37; (with_reducible refine (vernierref14_Convert.calls kj45 64 32 a0 t537 _ A74.out).mono ?_); rintro e w86 ⟨rfl, hb⟩; replace HB := hbS hb; (try clear hb); (try clear hb2); (try clear hk); (try clear hi)) | (go_at_call 44; (with_reducible refine (gen_P64_44.calls kj45 a0 t538 _ A80.out).mono ?_); rintro e w87 ⟨rfl, hb⟩; replace HB := hbS hb; (try clear hb); (try clear hb2); (try clear hk); (try clear hi)))
              go_ret
              exact ⟨reT, hbT⟩
             ·rw [if_neg c79] at H
              obtain ⟨c79b0, c79b1⟩ := eqN c79
              obtain rfl := Option.some.inj H
              go_wp2_with (first | ((with_reducible refine gate_callee (f := 12) rfl ?_); refine goA (some 84) Try.func12 (gen_P64_12.calls kj45 a0 t532 _ A67.out) ?_; intro w88 hb; replace HB := hbS hb; clear hb) | ((with_reducible refine gate_callee (f := 37) rfl ?_); refine goA (some 87) Try.func37 (vernierref14_Convert.calls kj45 64 8 a0 t533 _ A68.out) ?_; intro w89 hb; replace HB := hbS hb; clear hb) | (go_at_call 19; (with_reducible refine (gen_P64_19.calls kj45 a0 t534 _ A70.out).mono ?_); rintro e w90 ⟨rfl, hb⟩; replace HB := hbS hb; (try clear hb); (try clear hb2); (try clear hk); (try clear hi)) | (go_at_call 37; (with_reducible refine (vernierref14_Convert.calls kj45 64 16 a0 t535 _ A71.out).mono ?_); rintro e w91 ⟨rfl, hb⟩; replace HB := hbS hb; (try clear hb); (try clear hb2); (try clear hk); (try clear hi)) | (go_at_call 43; (with_reducible refine (gen_P64_43.calls kj45 a0 t536 _ A73.out).mono ?_); rintro e w92 ⟨rfl, hb⟩; replace HB := hbS hb; (try clear hb); (try clear hb2); (try clear hk); (try clear hi)) | (go_at_call 37; (with_reducible refine (vernierref14_Convert.calls kj45 64 32 a0 t537 _ A74.out).mono ?_); rintro e w93 ⟨rfl, hb⟩; replace HB := hbS hb; (try clear hb); (try clear hb2); (try clear hk); (try clear hi)))
              go_ret
              exact ⟨reT, hbT⟩
            ·replace c78 := Bool.eq_false_iff.mpr c78
             subst c78
             rw [if_neg (show ¬ (false = true) by decide)] at H
             obtain rfl := Option.some.inj H
             go_wp2_with (first | ((with_reducible refine gate_callee (f := 12) rfl ?_); refine goA (some 84) Try.func12 (gen_P64_12.calls kj45 a0 t532 _ A67.out) ?_; intro w94 hb; replace HB := hbS hb; clear hb) | ((with_reducible refine gate_callee (f := 37) rfl ?_); refine goA (some 87) Try.func37 (vernierref14_Convert.calls kj45 64 8 a0 t533 _ A68.out) ?_; intro w95 hb; replace HB := hbS hb; clear hb) | (go_at_call 19; (with_reducible refine (gen_P64_19.calls kj45 a0 t534 _ A70.out).mono ?_); rintro e w96 ⟨rfl, hb⟩; replace HB := hbS hb; (try clear hb); (try clear hb2); (try clear hk); (try clear hi)) | (go_at_call 37; (with_reducible refine (vernierref14_Convert.calls kj45 64 16 a0 t535 _ A71.out).mono ?_); rintro e w97 ⟨rfl, hb⟩; replace HB := hbS hb; (try clear hb); (try clear hb2); (try clear hk); (try clear hi)) | (go_at_call 43; (with_reducible refine (gen_P64_43.calls kj45 a0 t536 _ A73.out).mono ?_); rintro e w98 ⟨rfl, hb⟩; replace HB := hbS hb; (try clear hb); (try clear hb2); (try clear hk); (try clear hi)) | (go_at_call 37; (with_reducible refine (vernierref14_Convert.calls kj45 64 32 a0 t537 _ A74.out).mono ?_); rintro e w99 ⟨rfl, hb⟩; replace HB := hbS hb; (try clear hb); (try clear hb2); (try clear hk); (try clear hi)))
             go_ret
             exact ⟨reT, hbT⟩
           ·replace c77 := Bool.eq_false_iff.mpr c77
            subst c77
            rw [if_neg (show ¬ (false = true) by decide)] at H
            obtain rfl := Option.some.inj H
            go_wp2_with (first | ((with_reducible refine gate_callee (f := 12) rfl ?_); refine goA (some 84) Try.func12 (gen_P64_12.calls kj45 a0 t532 _ A67.out) ?_; intro w100 hb; replace HB := hbS hb; clear hb) | ((with_reducible refine gate_callee (f := 37) rfl ?_); refine goA (some 87) Try.func37 (vernierref14_Convert.calls kj45 64 8 a0 t533 _ A68.out) ?_; intro w101 hb; replace HB := hbS hb; clear hb) | (go_at_call 19; (with_reducible refine (gen_P64_19.calls kj45 a0 t534 _ A70.out).mono ?_); rintro e w102 ⟨rfl, hb⟩; replace HB := hbS hb; (try clear hb); (try clear hb2); (try clear hk); (try clear hi)) | (go_at_call 37; (with_reducible refine (vernierref14_Convert.calls kj45 64 16 a0 t535 _ A71.out).mono ?_); rintro e w103 ⟨rfl, hb⟩; replace HB := hbS hb; (try clear hb); (try clear hb2); (try clear hk); (try clear hi)) | (go_at_call 43; (with_reducible refine (gen_P64_43.calls kj45 a0 t536 _ A73.out).mono ?_); rintro e w104 ⟨rfl, hb⟩; replace HB := hbS hb; (try clear hb); (try clear hb2); (try clear hk); (try clear hi)) | (go_at_call 37; (with_reducible refine (vernierref14_Convert.calls kj45 64 32 a0 t537 _ A74.out).mono ?_); rintro e w105 ⟨rfl, hb⟩; replace HB := hbS hb; (try clear hb); (try clear hb2); (try clear hk); (try clear hi)))
            go_ret
            exact ⟨reT, hbT⟩
          ·replace c76 := Bool.eq_false_iff.mpr c76
           subst c76
           rw [if_neg (show ¬ (false = true) by decide)] at H
           obtain rfl := Option.some.inj H
           go_wp2_with (first | ((with_reducible refine gate_callee (f := 12) rfl ?_); refine goA (some 84) Try.func12 (gen_P64_12.calls kj45 a0 t532 _ A67.out) ?_; intro w106 hb; replace HB := hbS hb; clear hb) | ((with_reducible refine gate_callee (f := 37) rfl ?_); refine goA (some 87) Try.func37 (vernierref14_Convert.calls kj45 64 8 a0 t533 _ A68.out) ?_; intro w107 hb; replace HB := hbS hb; clear hb) | (go_at_call 19; (with_reducible refine (gen_P64_19.calls kj45 a0 t534 _ A70.out).mono ?_); rintro e w108 ⟨rfl, hb⟩; replace HB := hbS hb; (try clear hb); (try clear hb2); (try clear hk); (try clear hi)) | (go_at_call 37; (with_reducible refine (vernierref14_Convert.calls kj45 64 16 a0 t535 _ A71.out).mono ?_); rintro e w109 ⟨rfl, hb⟩; replace HB := hbS hb; (try clear hb); (try clear hb2); (try clear hk); (try clear hi)) | (go_at_call 43; (with_reducible refine (gen_P64_43.calls kj45 a0 t536 _ A73.out).mono ?_); rintro e w110 ⟨rfl, hb⟩; replace HB := hbS hb; (try clear hb); (try clear hb2); (try clear hk); (try clear hi)) | (go_at_call 37; (with_reducible refine (vernierref14_Convert.calls kj45 64 32 a0 t537 _ A74.out).mono ?_); rintro e w111 ⟨rfl, hb⟩; replace HB := hbS hb; (try clear hb); (try clear hb2); (try clear hk); (try clear hi)))
           go_ret
           exact ⟨reT, hbT⟩
         ·replace c75 := Bool.eq_false_iff.mpr c75
          subst c75
          rw [if_neg (show ¬ (false = true) by decide)] at H
          obtain rfl := Option.some.inj H
          go_wp2_with (first | ((with_reducible refine gate_callee (f := 12) rfl ?_); refine goA (some 84) Try.func12 (gen_P64_12.calls kj45 a0 t532 _ A67.out) ?_; intro w112 hb; replace HB := hbS hb; clear hb) | ((with_reducible refine gate_callee (f := 37) rfl ?_); refine goA (some 87) Try.func37 (vernierref14_Convert.calls kj45 64 8 a0 t533 _ A68.out) ?_; intro w113 hb; replace HB := hbS hb; clear hb) | (go_at_call 19; (with_reducible refine (gen_P64_19.calls kj45 a0 t534 _ A70.out).mono ?_); rintro e w114 ⟨rfl, hb⟩; replace HB := hbS hb; (try clear hb); (try clear hb2); (try clear hk); (try clear hi)) | (go_at_call 37; (with_reducible refine (vernierref14_Convert.calls kj45 64 16 a0 t535 _ A71.out).mono ?_); rintro e w115 ⟨rfl, hb⟩; replace HB := hbS hb; (try clear hb); (try clear hb2); (try clear hk); (try clear hi)) | (go_at_call 43; (with_reducible refine (gen_P64_43.calls kj45 a0 t536 _ A73.out).mono ?_); rintro e w116 ⟨rfl, hb⟩; replace HB := hbS hb; (try clear hb); (try clear hb2); (try clear hk); (try clear hi)) | (go_at_call 37; (with_reducible refine (vernierref14_Convert.calls kj45 64 32 a0 t537 _ A74.out).mono ?_); rintro e w117 ⟨rfl, hb⟩; replace HB := hbS hb; (try clear hb); (try clear hb2); (try clear hk); (try clear hi)))
          go_ret
          exact ⟨reT, hbT⟩
        ·rw [if_neg c72] at H
         obtain ⟨c72b0, c72b1⟩ := eqN c72
         by_cases c118 : t513 = true
         ·subst c118
          rw [if_pos rfl] at H
          by_cases c119 : x8_2 = true
          ·subst c119
           rw [if_pos rfl] at H
           by_cases c120 : x9_24 = true
           ·subst c120
            rw [if_pos rfl] at H
            by_cases c121 : x10_45 = true
            ·subst c121
             rw [if_pos rfl] at H
             obtain rfl := Option.some.inj H
             go_wp2_with (first | ((with_reducible refine gate_callee (f := 12) rfl ?_); refine goA (some 84) Try.func12 (gen_P64_12.calls kj45 a0 t532 _ A67.out) ?_; intro w122 hb; replace HB := hbS hb; clear hb) | ((with_reducible refine gate_callee (f := 37) rfl ?_); refine goA (some 87) Try.func37 (vernierref14_Convert.calls kj45 64 8 a0 t533 _ A68.out) ?_; intro w123 hb; replace HB := hbS hb; clear hb) | (go_at_call 19; (with_reducible refine (gen_P64_19.calls kj45 a0 t534 _ A70.out).mono ?_); rintro e w124 ⟨rfl, hb⟩; replace HB := hbS hb; (try clear hb); (try clear hb2); (try clear hk); (try clear hi)) | (go_at_call 37; (with_reducible refine (vernierref14_Convert.calls kj45 64 16 a0 t535 _ A71.out).mono ?_); rintro e w125 ⟨rfl, hb⟩; replace HB := hbS hb; (try clear hb); (try clear hb2); (try clear hk); (try clear hi)))
             go_ret
             exact ⟨reT, hbT⟩
            ·replace c121 := Bool.eq_false_iff.mpr c121
             subst c121
             rw [if_neg (show ¬ (false = true) by decide)] at H
             obtain rfl := Option.some.inj H
             go_wp2_with (first | ((with_reducible refine gate_callee (f := 12) rfl ?_); refine goA (some 84) Try.func12 (gen_P64_12.calls kj45 a0 t532 _ A67.out) ?_; intro w126 hb; replace HB := hbS hb; clear hb) | ((with_reducible refine gate_callee (f := 37) rfl ?_); refine goA (some 87) Try.func37 (vernierref14_Convert.calls kj45 64 8 a0 t533 _ A68.out) ?_; intro w127 hb; replace HB := hbS hb; clear hb) | (go_at_call 19; (with_reducible refine (gen_P64_19.calls kj45 a0 t534 _ A70.out).mono ?_); rintro e w128 ⟨rfl, hb⟩; replace HB := hbS hb; (try clear hb); (try clear hb2); (try clear hk); (try clear hi)) | (go_at_call 37; (with_reducible refine (vernierref14_Convert.calls kj45 64 16 a0 t535 _ A71.out).mono ?_); rintro e w129 ⟨rfl, hb⟩; replace HB := hbS hb; (try clear hb); (try clear hb2); (try clear hk); (try clear hi)))
             go_ret
             exact ⟨reT, hbT⟩
           ·replace c120 := Bool.eq_false_iff.mpr c120
            subst c120
            rw [if_neg (show ¬ (false = true) by decide)] at H
            obtain rfl := Option.some.inj H
            go_wp2_with (first | ((with_reducible refine gate_callee (f := 12) rfl ?_); refine goA (some 84) Try.func12 (gen_P64_12.calls kj45 a0 t532 _ A67.out) ?_; intro w130 hb; replace HB := hbS hb; clear hb) | ((with_reducible refine gate_callee (f := 37) rfl ?_); refine goA (some 87) Try.func37 (vernierref14_Convert.calls kj45 64 8 a0 t533 _ A68.out) ?_; intro w131 hb; replace HB := hbS hb; clear hb) | (go_at_call 19; (with_reducible refine (gen_P64_19.calls kj45 a0 t534 _ A70.out).mono ?_); rintro e w132 ⟨rfl, hb⟩; replace HB := hbS hb; (try clear hb); (try clear hb2); (try clear hk); (try clear hi)) | (go_at_call 37; (with_reducible refine (vernierref14_Convert.calls kj45 64 16 a0 t535 _ A71.out).mono ?_); rintro e w133 ⟨rfl, hb⟩; replace HB := hbS hb; (try clear hb); (try clear hb2); (try clear hk); (try clear hi)))
            go_ret
            exact ⟨reT, hbT⟩
          ·replace c119 := Bool.eq_false_iff.mpr c119
           subst c119
           rw [if_neg (show ¬ (false = true) by decide)] at H
           obtain rfl := Option.some.inj H
           go_wp2_with (first | ((with_reducible refine gate_callee (f := 12) rfl ?_); refine goA (some 84) Try.func12 (gen_P64_12.calls kj45 a0 t532 _ A67.out) ?_; intro w134 hb; replace HB := hbS hb; clear hb) | ((with_reducible refine gate_callee (f := 37) rfl ?_); refine goA (some 87) Try.func37 (vernierref14_Convert.calls kj45 64 8 a0 t533 _ A68.out) ?_; intro w135 hb; replace HB := hbS hb; clear hb) | (go_at_call 19; (with_reducible refine (gen_P64_19.calls kj45 a0 t534 _ A70.out).mono ?_); rintro e w136 ⟨rfl, hb⟩; replace HB := hbS hb; (try clear hb); (try clear hb2); (try clear hk); (try clear hi)) | (go_at_call 37; (with_reducible refine (vernierref14_Convert.calls kj45 64 16 a0 t535 _ A71.out).mono ?_); rintro e w137 ⟨rfl, hb⟩; replace HB := hbS hb; (try clear hb); (try clear hb2); (try clear hk); (try clear hi)))
           go_ret
           exact ⟨reT, hbT⟩
         ·replace c118 := Bool.eq_false_iff.mpr c118
          subst c118
          rw [if_neg (show ¬ (false = true) by decide)] at H
          obtain rfl := Option.some.inj H
          go_wp2_with (first | ((with_reducible refine gate_callee (f := 12) rfl ?_); refine goA (some 84) Try.func12 (gen_P64_12.calls kj45 a0 t532 _ A67.out) ?_; intro w138 hb; replace HB := hbS hb; clear hb) | ((with_reducible refine gate_callee (f := 37) rfl ?_); refine goA (some 87) Try.func37 (vernierref14_Convert.calls kj45 64 8 a0 t533 _ A68.out) ?_; intro w139 hb; replace HB := hbS hb; clear hb) | (go_at_call 19; (with_reducible refine (gen_P64_19.calls kj45 a0 t534 _ A70.out).mono ?_); rintro e w140 ⟨rfl, hb⟩; replace HB := hbS hb; (try clear hb); (try clear hb2); (try clear hk); (try clear hi)) | (go_at_call 37; (with_reducible refine (vernierref14_Convert.calls kj45 64 16 a0 t535 _ A71.out).mono ?_); rintro e w141 ⟨rfl, hb⟩; replace HB := hbS hb; (try clear hb); (try clear hb2); (try clear hk); (try clear hi)))
          go_ret
          exact ⟨reT, hbT⟩
       ·rw [if_neg c69] at H
        obtain ⟨c69b0, c69b1⟩ := eqN c69
        by_cases c142 : t513 = true
        ·subst c142
         rw [if_pos rfl] at H
         by_cases c143 : x8_2 = true
         ·subst c143
          rw [if_pos rfl] at H
          by_cases c144 : x9_24 = true
          ·subst c144
           rw [if_pos rfl] at H
           by_cases c145 : x10_45 = true
           ·subst c145
            rw [if_pos rfl] at H
            obtain rfl := Option.some.inj H
            go_wp2_with (first | ((with_reducible refine gate_callee (f := 12) rfl ?_); refine goA (some 84) Try.func12 (gen_P64_12.calls kj45 a0 t532 _ A67.out) ?_; intro w146 hb; replace HB := hbS hb; clear hb) | ((with_reducible refine gate_callee (f := 37) rfl ?_); refine goA (some 87) Try.func37 (vernierref14_Convert.calls kj45 64 8 a0 t533 _ A68.out) ?_; intro w147 hb; replace HB := hbS hb; clear hb))
            go_ret
            exact ⟨reT, hbT⟩
           ·replace c145 := Bool.eq_false_iff.mpr c145
            subst c145
            rw [if_neg (show ¬ (false = true) by decide)] at H
            obtain rfl := Option.some.inj H
            go_wp2_with (first | ((with_reducible refine gate_callee (f := 12) rfl ?_); refine goA (some 84) Try.func12 (gen_P64_12.calls kj45 a0 t532 _ A67.out) ?_; intro w148 hb; replace HB := hbS hb; clear hb) | ((with_reducible refine gate_callee (f := 37) rfl ?_); refine goA (some 87) Try.func37 (vernierref14_Convert.calls kj45 64 8 a0 t533 _ A68.out) ?_; intro w149 hb; replace HB := hbS hb; clear hb))
            go_ret
            exact ⟨reT, hbT⟩
          ·replace c144 := Bool.eq_false_iff.mpr c144
           subst c144
           rw [if_neg (show ¬ (false = true) by decide)] at H
           obtain rfl := Option.some.inj H
           go_wp2_with (first | ((with_reducible refine gate_callee (f := 12) rfl ?_); refine goA (some 84) Try.func12 (gen_P64_12.calls kj45 a0 t532 _ A67.out) ?_; intro w150 hb; replace HB := hbS hb; clear hb) | ((with_reducible refine gate_callee (f := 37) rfl ?_); refine goA (some 87) Try.func37 (vernierref14_Convert.calls kj45 64 8 a0 t533 _ A68.out) ?_; intro w151 hb; replace HB := hbS hb; clear hb))
           go_ret
           exact ⟨reT, hbT⟩
         ·replace c143 := Bool.eq_false_iff.mpr c143
          subst c143
          rw [if_neg (show ¬ (false = true) by decide)] at H
          obtain rfl := Option.some.inj H
          go_wp2_with (first | ((with_reducible refine gate_callee (f := 12) rfl ?_); refine goA (some 84) Try.func12 (gen_P64_12.calls kj45 a0 t532 _ A67.out) ?_; intro w152 hb; replace HB := hbS hb; clear hb) | ((with_reducible refine gate_callee (f := 37) rfl ?_); refine goA (some 87) Try.func37 (vernierref14_Convert.calls kj45 64 8 a0 t533 _ A68.out) ?_; intro w153 hb; replace HB := hbS hb; clear hb))
          go_ret
          exact ⟨reT, hbT⟩
        ·replace c142 := Bool.eq_false_iff.mpr c142
         subst c142
         rw [if_neg (show ¬ (false = true) by decide)] at H
         obtain rfl := Option.some.inj H
         go_wp2_with (first | ((with_reducible refine gate_callee (f := 12) rfl ?_); refine goA (some 84) Try.func12 (gen_P64_12.calls kj45 a0 t532 _ A67.out) ?_; intro w154 hb; replace HB := hbS hb; clear hb) | ((with_reducible refine gate_callee (f := 37) rfl ?_); refine goA (some 87) Try.func37 (vernierref14_Convert.calls kj45 64 8 a0 t533 _ A68.out) ?_; intro w155 hb; replace HB := hbS hb; clear hb))
         go_ret
         exact ⟨reT, hbT⟩
def vernierlaw14_GenTos.Pure : Prop := ∀ (a0 : Int), (Lit.int .u64 a0).wf = true → ∃ k, vernierlaw14_GenTos.f k a0 = some true
theorem vernierlaw14_GenTos.walk (P : vernierlaw14_GenTos.Pure) (a0 : Int) (w : World) (w0 : (Lit.int .u64 a0).wf = true) :
  Calls Try.prog 5 #[.int .u64 a0] w fun e w' => e = .returned (.bool true) ∧ Below w.heap.size w w' := by
 obtain ⟨k, h⟩ := P a0 w0
 refine (vernierlaw14_GenTos.calls k a0 true w h).mono ?_
 rintro e w' ⟨rfl, hd⟩
 exact ⟨rfl, hd⟩
end Go.Proofs.Ytnlbfomlfhigcaa.Q
namespace Go.Proofs.Ytnlbfomlfhigcaa.M
def tl (s : Int) (F : Nat) : Nat := (s % 4).toNat * 2 ^ 127 + (F - 2 ^ 127)
def str (s : Int) (F : Nat) : Nat :=
  if 0 ≤ s / 4 then 2 ^ 200 - 2 ^ 130 * 2 ^ (69 - (s / 4).toNat) + tl s F * 2 ^ (69 - (s / 4).toNat)
  else 2 ^ 129 * 2 ^ (70 - (-(s / 4)).toNat) + tl s F * 2 ^ (70 - (-(s / 4)).toNat)
theorem tl_lt {s : Int} {F : Nat} (hF : F < 2 ^ 128) : tl s F < 2 ^ 129 := by
  unfold tl
  have h1 : (s % 4).toNat ≤ 3 := by omega
  omega
theorem str_pos {s : Int} {F k : Nat} (h : s / 4 = (k : Int)) : str s F = 2 ^ 200 - 2 ^ 130 * 2 ^ (69 - k) + tl s F * 2 ^ (69 - k) := by
  unfold str
  rw [if_pos (by omega), h]
  rfl
theorem str_neg {s : Int} {F r : Nat} (h : s / 4 = -(r : Int)) (hr : 1 ≤ r) : str s F = 2 ^ 129 * 2 ^ (70 - r) + tl s F * 2 ^ (70 - r) := by
  unfold str
  rw [if_neg (by omega), h, show (-(-(r : Int))).toNat = r by omega]
theorem pow_le {a b : Nat} (h : a ≤ b) : 2 ^ a ≤ 2 ^ b := Nat.pow_le_pow_right (by omega) h
theorem pow_dbl {a b : Nat} (h : a + 1 ≤ b) : 2 * 2 ^ a ≤ 2 ^ b := by
  have := pow_le h
  rw [Nat.pow_succ] at this
  omega
theorem pow_pos (a : Nat) : 1 ≤ 2 ^ a := Nat.one_le_two_pow
theorem pos_room {k : Nat} (h : k ≤ 69) : 2 ^ 130 * 2 ^ (69 - k) ≤ 2 ^ 199 := by
  have := pow_le (show 69 - k ≤ 69 by omega)
  calc 2 ^ 130 * 2 ^ (69 - k) ≤ 2 ^ 130 * 2 ^ 69 := Nat.mul_le_mul_left _ this
    _ = 2 ^ 199 := by rw [← Nat.pow_add]
theorem str_pos_bd {s : Int} {F k : Nat} (h : s / 4 = (k : Int)) (hk : k ≤ 69) (hF : F < 2 ^ 128) :
    2 ^ 200 - 2 ^ 130 * 2 ^ (69 - k) ≤ str s F ∧ str s F < 2 ^ 200 - 2 ^ 129 * 2 ^ (69 - k) ∧ 2 ^ 199 ≤ str s F := by
  rw [str_pos h]
  have h1 := pos_room hk
  have h2 := tl_lt (s := s) hF
  have h3 := pow_pos (69 - k)
  generalize 2 ^ (69 - k) = a at *
  have h4 : tl s F * a + a ≤ 2 ^ 129 * a := by
    have := Nat.mul_le_mul_right a (show tl s F + 1 ≤ 2 ^ 129 by omega)
    rw [Nat.add_mul] at this
    omega
  generalize tl s F * a = b at *
  have h5 : 2 ^ 130 * a = 2 * (2 ^ 129 * a) := by rw [← Nat.mul_assoc, ← Nat.pow_succ']
  omega
theorem str_neg_bd {s : Int} {F r : Nat} (h : s / 4 = -(r : Int)) (hr : 1 ≤ r) (hr2 : r ≤ 70) (hF : F < 2 ^ 128) :
    2 ^ 129 * 2 ^ (70 - r) ≤ str s F ∧ str s F < 2 ^ 130 * 2 ^ (70 - r) ∧ str s F < 2 ^ 199 := by
  rw [str_neg h hr]
  have h2 := tl_lt (s := s) hF
  have h3 := pow_pos (70 - r)
  have h6 : 2 ^ 130 * 2 ^ (70 - r) ≤ 2 ^ 199 := by
    calc 2 ^ 130 * 2 ^ (70 - r) ≤ 2 ^ 130 * 2 ^ 69 := Nat.mul_le_mul_left _ (pow_le (by omega))
      _ = 2 ^ 199 := by rw [← Nat.pow_add]
  generalize 2 ^ (70 - r) = a at *
  have h4 : tl s F * a + a ≤ 2 ^ 129 * a := by
    have := Nat.mul_le_mul_right a (show tl s F + 1 ≤ 2 ^ 129 by omega)
    rw [Nat.add_mul] at this
    omega
  generalize tl s F * a = b at *
  have h5 : 2 ^ 130 * a = 2 * (2 ^ 129 * a) := by rw [← Nat.mul_assoc, ← Nat.pow_succ']
  omega
theorem tl_mono {s s' : Int} {F F' : Nat} (hk : s / 4 = s' / 4) (hF : 2 ^ 127 ≤ F) (hF2 : F < 2 ^ 128) (hG : 2 ^ 127 ≤ F') (h : s < s' ∨ (s = s' ∧ F < F')) : tl s F < tl s' F' := by
  unfold tl
  rcases h with h | ⟨rfl, h⟩
  · have h1 : (s % 4).toNat + 1 ≤ (s' % 4).toNat := by omega
    omega
  · omega
theorem str_lt {s s' : Int} {F F' : Nat} (hs : -270 ≤ s) (hs2 : s ≤ 270) (ht : -270 ≤ s') (ht2 : s' ≤ 270) (hF : 2 ^ 127 ≤ F) (hF2 : F < 2 ^ 128) (hG : 2 ^ 127 ≤ F') (hG2 : F' < 2 ^ 128)
    (h : s < s' ∨ (s = s' ∧ F < F')) : str s F < str s' F' := by
  have hk : s / 4 ≤ s' / 4 := by omega
  by_cases h0 : 0 ≤ s / 4
  · obtain ⟨k, hk0⟩ := Int.eq_ofNat_of_zero_le h0
    obtain ⟨k', hk1⟩ := Int.eq_ofNat_of_zero_le (show 0 ≤ s' / 4 by omega)
    by_cases e : k = k'
    · subst e
      have := tl_mono (by omega) hF hF2 hG h
      rw [str_pos hk0, str_pos hk1]
      have h1 := pos_room (show k ≤ 69 by omega)
      have h2 : tl s F * 2 ^ (69 - k) < tl s' F' * 2 ^ (69 - k) := Nat.mul_lt_mul_of_pos_right this (pow_pos _)
      omega
    · have h1 := str_pos_bd hk0 (by omega) hF2
      have h2 := str_pos_bd hk1 (by omega) hG2
      have h3 := pow_dbl (show (69 - k') + 1 ≤ 69 - k by omega)
      have h4 := pos_room (show k ≤ 69 by omega)
      have h5 := pos_room (show k' ≤ 69 by omega)
      generalize 2 ^ (69 - k) = a at *
      generalize 2 ^ (69 - k') = b at *
      have h6 : 2 ^ 130 * b = 2 ^ 129 * (2 * b) := by rw [← Nat.mul_assoc, ← Nat.pow_succ]
      have h7 : 2 ^ 129 * (2 * b) ≤ 2 ^ 129 * a := Nat.mul_le_mul_left _ h3
      omega
  · obtain ⟨r, hr0⟩ : ∃ r : Nat, s / 4 = -(r : Int) := ⟨(-(s / 4)).toNat, by omega⟩
    have g1 := str_neg_bd hr0 (by omega) (by omega) hF2
    by_cases h1 : 0 ≤ s' / 4
    · obtain ⟨k', hk1⟩ := Int.eq_ofNat_of_zero_le h1
      have h2 := str_pos_bd hk1 (by omega) hG2
      omega
    · obtain ⟨r', hr1⟩ : ∃ r : Nat, s' / 4 = -(r : Int) := ⟨(-(s' / 4)).toNat, by omega⟩
      by_cases e : r = r'
      · subst e
        have := tl_mono (by omega) hF hF2 hG h
        rw [str_neg hr0 (by omega), str_neg hr1 (by omega)]
        have h2 : tl s F * 2 ^ (70 - r) < tl s' F' * 2 ^ (70 - r) := Nat.mul_lt_mul_of_pos_right this (pow_pos _)
        omega
      · have g2 := str_neg_bd hr1 (by omega) (by omega) hG2
        have h3 := pow_dbl (show (70 - r) + 1 ≤ 70 - r' by omega)
        generalize 2 ^ (70 - r) = a at *
        generalize 2 ^ (70 - r') = b at *
        have h6 : 2 ^ 130 * a = 2 ^ 129 * (2 * a) := by rw [← Nat.mul_assoc, ← Nat.pow_succ]
        have h7 : 2 ^ 129 * (2 * a) ≤ 2 ^ 129 * b := Nat.mul_le_mul_left _ h3
        omega
theorem str_inj {s s' : Int} {F F' : Nat} (hs : -270 ≤ s) (hs2 : s ≤ 270) (ht : -270 ≤ s') (ht2 : s' ≤ 270) (hF : 2 ^ 127 ≤ F) (hF2 : F < 2 ^ 128) (hG : 2 ^ 127 ≤ F') (hG2 : F' < 2 ^ 128)
    (h : str s F = str s' F') : s = s' ∧ F = F' := by
  rcases Int.lt_trichotomy s s' with a | a | a
  · have := str_lt hs hs2 ht ht2 hF hF2 hG hG2 (.inl a); omega
  · rcases Nat.lt_trichotomy F F' with b | b | b
    · have := str_lt hs hs2 ht ht2 hF hF2 hG hG2 (.inr ⟨a, b⟩); omega
    · exact ⟨a, b⟩
    · have := str_lt ht ht2 hs hs2 hG hG2 hF hF2 (.inr ⟨a.symm, b⟩); omega
  · have := str_lt ht ht2 hs hs2 hG hG2 hF hF2 (.inl a); omega
def rnd (D V : Nat) : Nat := if D < 2 * (V % D) ∨ (D = 2 * (V % D) ∧ V / D % 2 = 1) then V / D + 1 else V / D
theorem rnd_bd (D V : Nat) : V / D ≤ rnd D V ∧ rnd D V ≤ V / D + 1 := by
  unfold rnd
  split <;> omega
theorem rnd_mul {D q : Nat} (hD : 0 < D) : rnd D (q * D) = q := by
  unfold rnd
  rw [Nat.mul_mod_left, Nat.mul_div_cancel _ hD, if_neg (by omega)]
def rpos (n : Nat) (s : Int) (F : Nat) (b : Bool) : Nat :=
  if 4 * (n : Int) - 8 ≤ s then 2 ^ (n - 1) - 1 else if s < 8 - 4 * (n : Int) then 1 else rnd (2 ^ (202 - n)) (2 * str s F + b.toNat)
theorem toNat_le (b : Bool) : b.toNat ≤ 1 := by cases b <;> decide
def Wd (n : Nat) : Prop := n = 8 ∨ n = 16 ∨ n = 32 ∨ n = 64
theorem Wd.bd {n : Nat} (h : Wd n) : 8 ≤ n ∧ n ≤ 64 := by unfold Wd at h; omega
theorem unit_eq {n : Nat} (h : Wd n) : 2 ^ (n - 1) * 2 ^ (201 - n) = 2 ^ 200 ∧ 2 ^ (202 - n) = 2 * 2 ^ (201 - n) := by
  have := h.bd
  constructor
  · rw [← Nat.pow_add]; congr 1; omega
  · rw [← Nat.pow_succ']; congr 1; omega
theorem rnd_in {n : Nat} (hn : Wd n) {s : Int} {F : Nat} (b : Bool) (h1 : 8 - 4 * (n : Int) ≤ s) (h2 : s < 4 * (n : Int) - 8) (hF2 : F < 2 ^ 128) :
    1 ≤ rnd (2 ^ (202 - n)) (2 * str s F + b.toNat) ∧ rnd (2 ^ (202 - n)) (2 * str s F + b.toNat) ≤ 2 ^ (n - 1) - 1 := by
  have hb := hn.bd
  have hbb := toNat_le b
  obtain ⟨u1, u2⟩ := unit_eq hn
  have r := rnd_bd (2 ^ (202 - n)) (2 * str s F + b.toNat)
  have up : str s F < 2 ^ 200 - 2 ^ (201 - n) := by
    by_cases h0 : 0 ≤ s / 4
    · obtain ⟨k, hk⟩ := Int.eq_ofNat_of_zero_le h0
      have := (str_pos_bd hk (by omega) hF2).2.1
      have e : 2 ^ (201 - n) ≤ 2 ^ 129 * 2 ^ (69 - k) := by rw [← Nat.pow_add]; exact pow_le (by omega)
      have := pos_room (show k ≤ 69 by omega)
      omega
    · obtain ⟨r, hr⟩ : ∃ r : Nat, s / 4 = -(r : Int) := ⟨(-(s / 4)).toNat, by omega⟩
      have := (str_neg_bd hr (by omega) (by omega) hF2).2.2
      have e : 2 ^ (201 - n) ≤ 2 ^ 193 := pow_le (by omega)
      omega
  have lo : 2 ^ (201 - n) ≤ str s F := by
    by_cases h0 : 0 ≤ s / 4
    · obtain ⟨k, hk⟩ := Int.eq_ofNat_of_zero_le h0
      have := (str_pos_bd hk (by omega) hF2).2.2
      have e : 2 ^ (201 - n) ≤ 2 ^ 193 := pow_le (by omega)
      omega
    · obtain ⟨r, hr⟩ : ∃ r : Nat, s / 4 = -(r : Int) := ⟨(-(s / 4)).toNat, by omega⟩
      have := (str_neg_bd hr (by omega) (by omega) hF2).1
      have e : 2 ^ (201 - n) ≤ 2 ^ 129 * 2 ^ (70 - r) := by rw [← Nat.pow_add]; exact pow_le (by omega)
      omega
  have hp := pow_pos (201 - n)
  have hq := pow_pos (n - 1)
  generalize str s F = S at *
  rw [u2] at r ⊢
  generalize 2 ^ (201 - n) = d at *
  generalize 2 ^ (n - 1) = m at *
  have q1 : 1 ≤ (2 * S + b.toNat) / (2 * d) := (Nat.le_div_iff_mul_le (by omega)).2 (by omega)
  have q2 : (2 * S + b.toNat) / (2 * d) < m - 1 := by
    rw [Nat.div_lt_iff_lt_mul (by omega)]
    have : (m - 1) * (2 * d) = 2 * (m * d) - 2 * d := by rw [Nat.sub_mul, Nat.one_mul, Nat.mul_left_comm]
    rw [this, u1]
    omega
  omega
theorem rpos_bd {n : Nat} (hn : Wd n) (s : Int) {F : Nat} (b : Bool) (hF2 : F < 2 ^ 128) : 1 ≤ rpos n s F b ∧ rpos n s F b ≤ 2 ^ (n - 1) - 1 := by
  have hb := hn.bd
  have : 2 ^ 1 ≤ 2 ^ (n - 1) := pow_le (by omega)
  unfold rpos
  split
  · omega
  · split
    · omega
    · exact rnd_in hn b (by omega) (by omega) hF2
def Dec (n p : Nat) (s : Int) (f : Nat) : Prop :=
  2 ^ 63 ≤ f ∧ f < 2 ^ 64 ∧ 8 - 4 * (n : Int) ≤ s ∧ s ≤ 4 * (n : Int) - 8 ∧ str s (f * 2 ^ 64) = p * 2 ^ (201 - n)
theorem Dec.F {n p : Nat} {s : Int} {f : Nat} (h : Dec n p s f) : 2 ^ 127 ≤ f * 2 ^ 64 ∧ f * 2 ^ 64 < 2 ^ 128 := by
  unfold Dec at h
  omega
theorem Dec.uniq {n p : Nat} (hn : Wd n) {s s' : Int} {f f' : Nat} (h : Dec n p s f) (h' : Dec n p s' f') : s = s' ∧ f = f' := by
  have hb := hn.bd
  have := str_inj (by unfold Dec at h; omega) (by unfold Dec at h; omega) (by unfold Dec at h'; omega) (by unfold Dec at h'; omega) h.F.1 h.F.2 h'.F.1 h'.F.2 (h.2.2.2.2.trans h'.2.2.2.2.symm)
  exact ⟨this.1, by omega⟩
theorem Dec.pos {n p : Nat} (hn : Wd n) {s : Int} {f : Nat} (h : Dec n p s f) (hs : s = 4 * (n : Int) - 8) : 2 ^ (n - 1) - 1 ≤ p := by
  have hb := hn.bd
  have h1 := (str_pos_bd (s := s) (F := f * 2 ^ 64) (k := n - 2) (by omega) (by omega) h.F.2).1
  obtain ⟨u1, u2⟩ := unit_eq hn
  rw [h.2.2.2.2] at h1
  have e : 2 ^ 130 * 2 ^ (69 - (n - 2)) = 2 ^ (201 - n) := by rw [← Nat.pow_add]; congr 1; omega
  rw [e, ← u1] at h1
  have hp := pow_pos (201 - n)
  have hq := pow_pos (n - 1)
  generalize 2 ^ (201 - n) = d at *
  have : (2 ^ (n - 1) - 1) * d ≤ p * d := by rw [Nat.sub_mul, Nat.one_mul]; exact h1
  exact Nat.le_of_mul_le_mul_right this hp
theorem Dec.widen {n m p : Nat} (hn : Wd n) (hm : Wd m) (hnm : n ≤ m) {s : Int} {f : Nat} (h : Dec n p s f) (hp : p < 2 ^ (n - 1)) :
    rpos m s (f * 2 ^ 64) false = p * 2 ^ (m - n) ∧ Dec m (p * 2 ^ (m - n)) s f := by
  have hb := hn.bd
  have hb' := hm.bd
  have e1 : p * 2 ^ (m - n) * 2 ^ (201 - m) = p * 2 ^ (201 - n) := by rw [Nat.mul_assoc, ← Nat.pow_add]; congr 2; omega
  have h2 := h
  unfold Dec at h2
  constructor
  · unfold rpos
    by_cases e : 4 * (m : Int) - 8 ≤ s
    · have : m = n := by omega
      subst this
      have := h.pos hn (by omega)
      rw [if_pos e, Nat.sub_self, Nat.pow_zero]
      omega
    · rw [if_neg e, if_neg (by omega), h2.2.2.2.2, ← e1]
      have : 2 * (p * 2 ^ (m - n) * 2 ^ (201 - m)) + false.toNat = p * 2 ^ (m - n) * 2 ^ (202 - m) := by
        rw [(unit_eq hm).2]
        show 2 * _ + 0 = _
        rw [Nat.add_zero, Nat.mul_left_comm]
      rw [this]
      exact rnd_mul (pow_pos _)
  · unfold Dec
    refine ⟨h2.1, h2.2.1, by omega, by omega, ?_⟩
    rw [h2.2.2.2.2, e1]
end Go.Proofs.Ytnlbfomlfhigcaa.M
namespace Go.Proofs.Ytnlbfomlfhigcaa.M
open Go.RowKit Go.Proofs.YtnlbfomlfhigcaaW.PrintWords Go.Proofs.YtnlbfomlfhigcaaW.PrintLast Go.Proofs.YtnlbfomlfhigcaaW.PrintMore
theorem u64w (n : Int) : IntKind.u64.wrap n = n % 18446744073709551616 := by simp [IntKind.wrap, IntKind.bits, IntKind.signed]
theorem wrap64_id {n : Int} (h : -9223372036854775808 ≤ n) (h' : n ≤ 9223372036854775807) : wrap64 n = n := by unfold wrap64; omega
theorem p64 : (2 : Nat) ^ 64 = 18446744073709551616 := by decide
theorem p63 : (2 : Nat) ^ 63 = 9223372036854775808 := by decide
theorem cast_pow (j : Nat) : ((2 : Int) ^ j) = ((2 ^ j : Nat) : Int) := by simp
theorem shl_nat (x j : Nat) (hj : j ≤ 64) : shl .u64 (x : Int) (j : Int) = ((x * 2 ^ j % 2 ^ 64 : Nat) : Int) := by
  unfold shl
  rw [u64w, Int.toNat_natCast, Nat.min_eq_left (show j ≤ IntKind.u64.bits from hj), cast_pow, p64]
  omega
theorem shr_nat (x j : Nat) (hj : j ≤ 64) : shr .u64 (x : Int) (j : Int) = ((x / 2 ^ j : Nat) : Int) := by
  unfold shr
  rw [Int.toNat_natCast, Nat.min_eq_left (show j ≤ IntKind.u64.bits from hj), cast_pow]
  simp
theorem wraps_u64 (n : Int) (h₀ : 0 ≤ n) (h₁ : n < 2 ^ 64) : IntKind.u64.wrap n = n := by rw [u64w]; omega
theorem and_nat (a b : Nat) (ha : a < 2 ^ 64) (hb : b < 2 ^ 64) : Go.bits .and .u64 (a : Int) (b : Int) = ((a &&& b : Nat) : Int) :=
  (bits_nat .u64 64 (by decide) wraps_u64 a b ha hb).1
theorem or_nat (a b : Nat) (ha : a < 2 ^ 64) (hb : b < 2 ^ 64) : Go.bits .or .u64 (a : Int) (b : Int) = ((a ||| b : Nat) : Int) :=
  (bits_nat .u64 64 (by decide) wraps_u64 a b ha hb).2
theorem and_mask (a j : Nat) (ha : a < 2 ^ 64) (hj : j ≤ 64) : Go.bits .and .u64 (a : Int) ((2 ^ j - 1 : Nat) : Int) = ((a % 2 ^ j : Nat) : Int) := by
  have : 2 ^ j ≤ 2 ^ 64 := Nat.pow_le_pow_right (by decide) hj
  rw [and_nat a _ ha (by omega), Nat.and_two_pow_sub_one_eq_mod]
theorem or_add (a b i : Nat) (ha : a < 2 ^ 64) (hb : b < 2 ^ i) (hi : i ≤ 64) (hd : a % 2 ^ i = 0) : Go.bits .or .u64 (a : Int) (b : Int) = ((a + b : Nat) : Int) := by
  have : 2 ^ i ≤ 2 ^ 64 := Nat.pow_le_pow_right (by decide) hi
  rw [or_nat a b ha (by omega)]
  have hq : a = 2 ^ i * (a / 2 ^ i) := by
    have := Nat.div_add_mod a (2 ^ i)
    omega
  rw [hq, ← Nat.two_pow_add_eq_or_of_lt hb (a / 2 ^ i)]
theorem xor_all (a : Nat) (ha : a < 2 ^ 64) : Go.bits .xor .u64 18446744073709551615 (a : Int) = ((2 ^ 64 - 1 - a : Nat) : Int) := by
  have e : (18446744073709551615 : Int) = ((2 ^ 64 - 1 : Nat) : Int) := by decide
  unfold Go.bits
  rw [e]
  simp only [BitVec.ofInt_natCast]
  have h1 : BitVec.ofNat 64 (2 ^ 64 - 1) = BitVec.allOnes 64 := by rfl
  show IntKind.u64.wrap ((BitVec.ofNat 64 (2 ^ 64 - 1) ^^^ BitVec.ofNat 64 a).toNat : Nat) = _
  rw [h1, BitVec.allOnes_xor, BitVec.toNat_not, BitVec.toNat_ofNat, Nat.mod_eq_of_lt ha, u64w, p64]
  rw [p64] at ha
  omega
theorem mn_nat (a b : Nat) : mn (a : Int) (b : Int) = ((min a b : Nat) : Int) := by unfold mn; omega
end Go.Proofs.Ytnlbfomlfhigcaa.M
