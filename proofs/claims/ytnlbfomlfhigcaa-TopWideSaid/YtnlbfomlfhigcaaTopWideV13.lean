/- Walks and plain laws that the claim stands on: each theorem named calls says that a call of a function returns what its f computes; the others are plain laws of these f, and the words that the walks use. -/
import Derived.Lib.ItoaNum
import Derived.Test.YtnlbfomlfhigcaaTopWideV2
import Derived.Test.YtnlbfomlfhigcaaTopWideV7
import Derived.Test.YtnlbfomlfhigcaaTopWideV12
import Derived.Test.YtnlbfomlfhigcaaTopWideV3
namespace Go.Proofs.Ytnlbfomlfhigcaa.Q
open Go.RowKit Go.Proofs.YtnlbfomlfhigcaaW.PrintWords Go.Proofs.YtnlbfomlfhigcaaW.PrintLast Go.Proofs.YtnlbfomlfhigcaaW.PrintMore
attribute [local go_sem] max2_int min2_int max_two min_two max_three min_three max_four min_four
set_option linter.unusedVariables false
set_option linter.unusedSimpArgs false
def verniertop_TopWide.f (k : Nat) (a0 : Int) (a1 : Int) (a2 : Int) (a3 : Int) : Option (Bool) := (gen_P8_11.f k a0).bind fun t942 => ((gen_P8_11.f k a1).bind fun t943 => ((gen_P64_13.f k t942 t943).bind fun t944 => ((gen_P64_12.f k t944).bind fun t945 => ((gen_P8_14.f k a0 a1).bind fun t946 => ((gen_P64_15.f k t942 t943).bind fun t947 => ((gen_P64_12.f k t947).bind fun t948 => ((gen_P8_16.f k a0 a1).bind fun t949 => ((gen_P64_17.f k t942 t943).bind fun t950 => ((gen_P64_12.f k t950).bind fun t951 => ((gen_P8_18.f k a0 a1).bind fun t952 => ((gen_P16_20.f k a2).bind fun t953 => ((gen_P16_20.f k a3).bind fun t954 => ((gen_P64_17.f k t953 t954).bind fun t955 => ((gen_P64_19.f k t955).bind fun t956 => ((gen_P16_21.f k a2 a3).bind fun t957 => (if t945 = t946 then (if t948 = t949 then (if t951 = t952 then (if t956 = t957 then ((gen_P64_22.f k).bind fun t958 => (if t958 = 64 then ((gen_P64_12.f k t942).bind fun t959 => (if t959 = a0 then ((gen_P16_24.f k a2).bind fun t960 => ((gen_P32_23.f k t960).bind fun t961 => (some (t961 == a2)))) else (some false))) else (some false))) else (some false)) else (some false)) else (some false)) else (some false)))))))))))))))))
set_option maxHeartbeats 8000000 in
set_option maxRecDepth 100000 in
theorem verniertop_TopWide.calls (k : Nat) (a0 : Int) (a1 : Int) (a2 : Int) (a3 : Int) (r : Bool) (w : World) (h : verniertop_TopWide.f k a0 a1 a2 a3 = some r) :
  Calls Try.prog 3 #[.int .u8 a0, .int .u8 a1, .int .u16 a2, .int .u16 a3] w fun e w' => e = .returned (.bool r) ∧ Below w.heap.size w w' := by
 have HB := Aside0.mk (Below.refl w.heap.size w)
 have H := h
 clear h
 unfold verniertop_TopWide.f at H
 replace H := Option.bind_eq_some_iff.mp H
 obtain ⟨t942, A50, H⟩ := H
 try dsimp only at H
 have A5 := Aside0.mk A50
 clear A50
 replace H := Option.bind_eq_some_iff.mp H
 obtain ⟨t943, A60, H⟩ := H
 try dsimp only at H
 have A6 := Aside0.mk A60
 clear A60
 replace H := Option.bind_eq_some_iff.mp H
 obtain ⟨t944, A70, H⟩ := H
 try dsimp only at H
 have A7 := Aside0.mk A70
 clear A70
 replace H := Option.bind_eq_some_iff.mp H
 obtain ⟨t945, A80, H⟩ := H
 try dsimp only at H
 have A8 := Aside0.mk A80
 clear A80
 replace H := Option.bind_eq_some_iff.mp H
 obtain ⟨t946, A90, H⟩ := H
 try dsimp only at H
 have A9 := Aside0.mk A90
 clear A90
 replace H := Option.bind_eq_some_iff.mp H
 obtain ⟨t947, A100, H⟩ := H
 try dsimp only at H
 have A10 := Aside0.mk A100
 clear A100
 replace H := Option.bind_eq_some_iff.mp H
 obtain ⟨t948, A110, H⟩ := H
 try dsimp only at H
 have A11 := Aside0.mk A110
 clear A110
 replace H := Option.bind_eq_some_iff.mp H
 obtain ⟨t949, A120, H⟩ := H
 try dsimp only at H
 have A12 := Aside0.mk A120
 clear A120
 replace H := Option.bind_eq_some_iff.mp H
 obtain ⟨t950, A130, H⟩ := H
 try dsimp only at H
 have A13 := Aside0.mk A130
 clear A130
 replace H := Option.bind_eq_some_iff.mp H
 obtain ⟨t951, A140, H⟩ := H
 try dsimp only at H
 have A14 := Aside0.mk A140
 clear A140
 replace H := Option.bind_eq_some_iff.mp H
 obtain ⟨t952, A150, H⟩ := H
 try dsimp only at H
 have A15 := Aside0.mk A150
 clear A150
 replace H := Option.bind_eq_some_iff.mp H
 obtain ⟨t953, A160, H⟩ := H
 try dsimp only at H
 have A16 := Aside0.mk A160
 clear A160
 replace H := Option.bind_eq_some_iff.mp H
 obtain ⟨t954, A170, H⟩ := H
 try dsimp only at H
 have A17 := Aside0.mk A170
 clear A170
 replace H := Option.bind_eq_some_iff.mp H
 obtain ⟨t955, A180, H⟩ := H
 try dsimp only at H
 have A18 := Aside0.mk A180
 clear A180
 replace H := Option.bind_eq_some_iff.mp H
 obtain ⟨t956, A190, H⟩ := H
 try dsimp only at H
 have A19 := Aside0.mk A190
 clear A190
 replace H := Option.bind_eq_some_iff.mp H
 obtain ⟨t957, A200, H⟩ := H
 try dsimp only at H
 have A20 := Aside0.mk A200
 clear A200
 by_cases c21 : t945 = t946
 ·rw [if_pos c21] at H
  obtain ⟨c21b0, c21b1⟩ := eqY c21
  clear c21
  by_cases c22 : t948 = t949
  ·rw [if_pos c22] at H
   obtain ⟨c22b0, c22b1⟩ := eqY c22
   clear c22
   by_cases c23 : t951 = t952
   ·rw [if_pos c23] at H
    obtain ⟨c23b0, c23b1⟩ := eqY c23
    clear c23
    by_cases c24 : t956 = t957
    ·rw [if_pos c24] at H
     obtain ⟨c24b0, c24b1⟩ := eqY c24
     clear c24
     replace H := Option.bind_eq_some_iff.mp H
     obtain ⟨t958, A250, H⟩ := H
     try dsimp only at H
     have A25 := Aside0.mk A250
     clear A250
     by_cases c26 : t958 = 64
     ·rw [if_pos c26] at H
      obtain ⟨c26b0, c26b1⟩ := eqY c26
      clear c26
      replace H := Option.bind_eq_some_iff.mp H
      obtain ⟨t959, A270, H⟩ := H
      try dsimp only at H
      have A27 := Aside0.mk A270
      clear A270
      by_cases c28 : t959 = a0
      ·rw [if_pos c28] at H
       obtain ⟨c28b0, c28b1⟩ := eqY c28
       clear c28
       replace H := Option.bind_eq_some_iff.mp H
       obtain ⟨t960, A290, H⟩ := H
       try dsimp only at H
       have A29 := Aside0.mk A290
       clear A290
       replace H := Option.bind_eq_some_iff.mp H
       obtain ⟨t961, A300, H⟩ := H
       try dsimp only at H
       have A30 := Aside0.mk A300
       clear A300
       obtain rfl := Option.some.inj H
       go_enter Try.func3, Try.ntmps3
       go_wp2_with (first | ((with_reducible refine gate_callee (f := 11) rfl ?_); refine goA (some 24) Try.func11 (gen_P8_11.calls k a0 t942 _ A5.out) ?_; intro w31 hb; replace HB := hbS hb; clear hb) | ((with_reducible refine gate_callee (f := 11) rfl ?_); refine goA (some 26) Try.func11 (gen_P8_11.calls k a1 t943 _ A6.out) ?_; intro w32 hb; replace HB := hbS hb; clear hb) | ((with_reducible refine gate_callee (f := 13) rfl ?_); refine goA (some 29) Try.func13 (gen_P64_13.calls k t942 t943 t944 _ A7.out) ?_; intro w33 hb; replace HB := hbS hb; clear hb) | ((with_reducible refine gate_callee (f := 12) rfl ?_); refine goA (some 30) Try.func12 (gen_P64_12.calls k t944 t945 _ A8.out) ?_; intro w34 hb; replace HB := hbS hb; clear hb) | ((with_reducible refine gate_callee (f := 14) rfl ?_); refine goA (some 33) Try.func14 (gen_P8_14.calls k a0 a1 t946 _ A9.out) ?_; intro w35 hb; replace HB := hbS hb; clear hb) | ((with_reducible refine gate_callee (f := 15) rfl ?_); refine goA (some 37) Try.func15 (gen_P64_15.calls k t942 t943 t947 _ A10.out) ?_; intro w36 hb; replace HB := hbS hb; clear hb) | ((with_reducible refine gate_callee (f := 12) rfl ?_); refine goA (some 38) Try.func12 (gen_P64_12.calls k t947 t948 _ A11.out) ?_; intro w37 hb; replace HB := hbS hb; clear hb) | ((with_reducible refine gate_callee (f := 16) rfl ?_); refine goA (some 41) Try.func16 (gen_P8_16.calls k a0 a1 t949 _ A12.out) ?_; intro w38 hb; replace HB := hbS hb; clear hb) | ((with_reducible refine gate_callee (f := 17) rfl ?_); refine goA (some 45) Try.func17 (gen_P64_17.calls k t942 t943 t950 _ A13.out) ?_; intro w39 hb; replace HB := hbS hb; clear hb) | ((with_reducible refine gate_callee (f := 12) rfl ?_); refine goA (some 46) Try.func12 (gen_P64_12.calls k t950 t951 _ A14.out) ?_; intro w40 hb; replace HB := hbS hb; clear hb) | ((with_reducible refine gate_callee (f := 18) rfl ?_); refine goA (some 49) Try.func18 (gen_P8_18.calls k a0 a1 t952 _ A15.out) ?_; intro w41 hb; replace HB := hbS hb; clear hb) | ((with_reducible refine gate_callee (f := 20) rfl ?_); refine goA (some 52) Try.func20 (gen_P16_20.calls k a2 t953 _ A16.out) ?_; intro w42 hb; replace HB := hbS hb; clear hb) | ((with_reducible refine gate_callee (f := 20) rfl ?_); refine goA (some 54) Try.func20 (gen_P16_20.calls k a3 t954 _ A17.out) ?_; intro w43 hb; replace HB := hbS hb; clear hb) | ((with_reducible refine gate_callee (f := 17) rfl ?_); refine goA (some 55) Try.func17 (gen_P64_17.calls k t953 t954 t955 _ A18.out) ?_; intro w44 hb; replace HB := hbS hb; clear hb) | ((with_reducible refine gate_callee (f := 19) rfl ?_); refine goA (some 56) Try.func19 (gen_P64_19.calls k t955 t956 _ A19.out) ?_; intro w45 hb; replace HB := hbS hb; clear hb) | ((with_reducible refine gate_callee (f := 21) rfl ?_); refine goA (some 59) Try.func21 (gen_P16_21.calls k a2 a3 t957 _ A20.out) ?_; intro w46 hb; replace HB := hbS hb; clear hb) | (go_at_call 22; (with_reducible refine (gen_P64_22.calls k  t958 _ A25.out).mono ?_); rintro e w' ⟨rfl, ⟨nd, rfl⟩⟩) | (go_at_call 12; (with_reducible refine (gen_P64_12.calls k t942 t959 _ A27.out).mono ?_); rintro e w47 ⟨rfl, hb⟩; replace HB := hbS hb; (try clear hb); (try clear hb2); (try clear hk); (try clear hi)) | (go_at_call 24; (with_reducible refine (gen_P16_24.calls k a2 t960 _ A29.out).mono ?_); rintro e w48 ⟨rfl, hb⟩; replace HB := hbS hb; (try clear hb); (try clear hb2); (try clear hk); (try clear hi)) | (go_at_call 23; (with_reducible refine (gen_P32_23.calls k t960 t961 _ A30.out).mono ?_); rintro e w49 ⟨rfl, hb⟩; replace HB := hbS hb; (try clear hb); (try clear hb2); (try clear hk); (try clear hi)))
       go_ret
       exact ⟨reT, hbT⟩
      ·rw [if_neg c28] at H
       obtain ⟨c28b0, c28b1⟩ := eqN c28
       obtain rfl := Option.some.inj H
       go_enter Try.func3, Try.ntmps3
       go_wp2_with (first | ((with_reducible refine gate_callee (f := 11) rfl ?_); refine goA (some 24) Try.func11 (gen_P8_11.calls k a0 t942 _ A5.out) ?_; intro w50 hb; replace HB := hbS hb; clear hb) | ((with_reducible refine gate_callee (f := 11) rfl ?_); refine goA (some 26) Try.func11 (gen_P8_11.calls k a1 t943 _ A6.out) ?_; intro w51 hb; replace HB := hbS hb; clear hb) | ((with_reducible refine gate_callee (f := 13) rfl ?_); refine goA (some 29) Try.func13 (gen_P64_13.calls k t942 t943 t944 _ A7.out) ?_; intro w52 hb; replace HB := hbS hb; clear hb) | ((with_reducible refine gate_callee (f := 12) rfl ?_); refine goA (some 30) Try.func12 (gen_P64_12.calls k t944 t945 _ A8.out) ?_; intro w53 hb; replace HB := hbS hb; clear hb) | ((with_reducible refine gate_callee (f := 14) rfl ?_); refine goA (some 33) Try.func14 (gen_P8_14.calls k a0 a1 t946 _ A9.out) ?_; intro w54 hb; replace HB := hbS hb; clear hb) | ((with_reducible refine gate_callee (f := 15) rfl ?_); refine goA (some 37) Try.func15 (gen_P64_15.calls k t942 t943 t947 _ A10.out) ?_; intro w55 hb; replace HB := hbS hb; clear hb) | ((with_reducible refine gate_callee (f := 12) rfl ?_); refine goA (some 38) Try.func12 (gen_P64_12.calls k t947 t948 _ A11.out) ?_; intro w56 hb; replace HB := hbS hb; clear hb) | ((with_reducible refine gate_callee (f := 16) rfl ?_); refine goA (some 41) Try.func16 (gen_P8_16.calls k a0 a1 t949 _ A12.out) ?_; intro w57 hb; replace HB := hbS hb; clear hb) | ((with_reducible refine gate_callee (f := 17) rfl ?_); refine goA (some 45) Try.func17 (gen_P64_17.calls k t942 t943 t950 _ A13.out) ?_; intro w58 hb; replace HB := hbS hb; clear hb) | ((with_reducible refine gate_callee (f := 12) rfl ?_); refine goA (some 46) Try.func12 (gen_P64_12.calls k t950 t951 _ A14.out) ?_; intro w59 hb; replace HB := hbS hb; clear hb) | ((with_reducible refine gate_callee (f := 18) rfl ?_); refine goA (some 49) Try.func18 (gen_P8_18.calls k a0 a1 t952 _ A15.out) ?_; intro w60 hb; replace HB := hbS hb; clear hb) | ((with_reducible refine gate_callee (f := 20) rfl ?_); refine goA (some 52) Try.func20 (gen_P16_20.calls k a2 t953 _ A16.out) ?_; intro w61 hb; replace HB := hbS hb; clear hb) | ((with_reducible refine gate_callee (f := 20) rfl ?_); refine goA (some 54) Try.func20 (gen_P16_20.calls k a3 t954 _ A17.out) ?_; intro w62 hb; replace HB := hbS hb; clear hb) | ((with_reducible refine gate_callee (f := 17) rfl ?_); refine goA (some 55) Try.func17 (gen_P64_17.calls k t953 t954 t955 _ A18.out) ?_; intro w63 hb; replace HB := hbS hb; clear hb) | ((with_reducible refine gate_callee (f := 19) rfl ?_); refine goA (some 56) Try.func19 (gen_P64_19.calls k t955 t956 _ A19.out) ?_; intro w64 hb; replace HB := hbS hb; clear hb) | ((with_reducible refine gate_callee (f := 21) rfl ?_); refine goA (some 59) Try.func21 (gen_P16_21.calls k a2 a3 t957 _ A20.out) ?_; intro w65 hb; replace HB := hbS hb; clear hb) | (go_at_call 22; (with_reducible refine (gen_P64_22.calls k  t958 _ A25.out).mono ?_); rintro e w' ⟨rfl, ⟨nd, rfl⟩⟩) | (go_at_call 12; (with_reducible refine (gen_P64_12.calls k t942 t959 _ A27.out).mono ?_); rintro e w66 ⟨rfl, hb⟩; replace HB := hbS hb; (try clear hb); (try clear hb2); (try clear hk); (try clear hi)))
       go_ret
       exact ⟨reT, hbT⟩
     ·rw [if_neg c26] at H
      obtain ⟨c26b0, c26b1⟩ := eqN c26
      obtain rfl := Option.some.inj H
      go_enter Try.func3, Try.ntmps3
      go_wp2_with (first | ((with_reducible refine gate_callee (f := 11) rfl ?_); refine goA (some 24) Try.func11 (gen_P8_11.calls k a0 t942 _ A5.out) ?_; intro w67 hb; replace HB := hbS hb; clear hb) | ((with_reducible refine gate_callee (f := 11) rfl ?_); refine goA (some 26) Try.func11 (gen_P8_11.calls k a1 t943 _ A6.out) ?_; intro w68 hb; replace HB := hbS hb; clear hb) | ((with_reducible refine gate_callee (f := 13) rfl ?_); refine goA (some 29) Try.func13 (gen_P64_13.calls k t942 t943 t944 _ A7.out) ?_; intro w69 hb; replace HB := hbS hb; clear hb) | ((with_reducible refine gate_callee (f := 12) rfl ?_); refine goA (some 30) Try.func12 (gen_P64_12.calls k t944 t945 _ A8.out) ?_; intro w70 hb; replace HB := hbS hb; clear hb) | ((with_reducible refine gate_callee (f := 14) rfl ?_); refine goA (some 33) Try.func14 (gen_P8_14.calls k a0 a1 t946 _ A9.out) ?_; intro w71 hb; replace HB := hbS hb; clear hb) | ((with_reducible refine gate_callee (f := 15) rfl ?_); refine goA (some 37) Try.func15 (gen_P64_15.calls k t942 t943 t947 _ A10.out) ?_; intro w72 hb; replace HB := hbS hb; clear hb) | ((with_reducible refine gate_callee (f := 12) rfl ?_); refine goA (some 38) Try.func12 (gen_P64_12.calls k t947 t948 _ A11.out) ?_; intro w73 hb; replace HB := hbS hb; clear hb) | ((with_reducible refine gate_callee (f := 16) rfl ?_); refine goA (some 41) Try.func16 (gen_P8_16.calls k a0 a1 t949 _ A12.out) ?_; intro w74 hb; replace HB := hbS hb; clear hb) | ((with_reducible refine gate_callee (f := 17) rfl ?_); refine goA (some 45) Try.func17 (gen_P64_17.calls k t942 t943 t950 _ A13.out) ?_; intro w75 hb; replace HB := hbS hb; clear hb) | ((with_reducible refine gate_callee (f := 12) rfl ?_); refine goA (some 46) Try.func12 (gen_P64_12.calls k t950 t951 _ A14.out) ?_; intro w76 hb; replace HB := hbS hb; clear hb) | ((with_reducible refine gate_callee (f := 18) rfl ?_); refine goA (some 49) Try.func18 (gen_P8_18.calls k a0 a1 t952 _ A15.out) ?_; intro w77 hb; replace HB := hbS hb; clear hb) | ((with_reducible refine gate_callee (f := 20) rfl ?_); refine goA (some 52) Try.func20 (gen_P16_20.calls k a2 t953 _ A16.out) ?_; intro w78 hb; replace HB := hbS hb; clear hb) | ((with_reducible refine gate_callee (f := 20) rfl ?_); refine goA (some 54) Try.func20 (gen_P16_20.calls k a3 t954 _ A17.out) ?_; intro w79 hb; replace HB := hbS hb; clear hb) | ((with_reducible refine gate_callee (f := 17) rfl ?_); refine goA (some 55) Try.func17 (gen_P64_17.calls k t953 t954 t955 _ A18.out) ?_; intro w80 hb; replace HB := hbS hb; clear hb) | ((with_reducible refine gate_callee (f := 19) rfl ?_); refine goA (some 56) Try.func19 (gen_P64_19.calls k t955 t956 _ A19.out) ?_; intro w81 hb; replace HB := hbS hb; clear hb) | ((with_reducible refine gate_callee (f := 21) rfl ?_); refine goA (some 59) Try.func21 (gen_P16_21.calls k a2 a3 t957 _ A20.out) ?_; intro w82 hb; replace HB := hbS hb; clear hb) | (go_at_call 22; (with_reducible refine (gen_P64_22.calls k  t958 _ A25.out).mono ?_); rintro e w' ⟨rfl, ⟨nd, rfl⟩⟩))
      go_ret
      exact ⟨reT, hbT⟩
    ·rw [if_neg c24] at H
     obtain ⟨c24b0, c24b1⟩ := eqN c24
     obtain rfl := Option.some.inj H
     go_enter Try.func3, Try.ntmps3
     go_wp2_with (first | ((with_reducible refine gate_callee (f := 11) rfl ?_); refine goA (some 24) Try.func11 (gen_P8_11.calls k a0 t942 _ A5.out) ?_; intro w83 hb; replace HB := hbS hb; clear hb) | ((with_reducible refine gate_callee (f := 11) rfl ?_); refine goA (some 26) Try.func11 (gen_P8_11.calls k a1 t943 _ A6.out) ?_; intro w84 hb; replace HB := hbS hb; clear hb) | ((with_reducible refine gate_callee (f := 13) rfl ?_); refine goA (some 29) Try.func13 (gen_P64_13.calls k t942 t943 t944 _ A7.out) ?_; intro w85 hb; replace HB := hbS hb; clear hb) | ((with_reducible refine gate_callee (f := 12) rfl ?_); refine goA (some 30) Try.func12 (gen_P64_12.calls k t944 t945 _ A8.out) ?_; intro w86 hb; replace HB := hbS hb; clear hb) | ((with_reducible refine gate_callee (f := 14) rfl ?_); refine goA (some 33) Try.func14 (gen_P8_14.calls k a0 a1 t946 _ A9.out) ?_; intro w87 hb; replace HB := hbS hb; clear hb) | ((with_reducible refine gate_callee (f := 15) rfl ?_); refine goA (some 37) Try.func15 (gen_P64_15.calls k t942 t943 t947 _ A10.out) ?_; intro w88 hb; replace HB := hbS hb; clear hb) | ((with_reducible refine gate_callee (f := 12) rfl ?_); refine goA (some 38) Try.func12 (gen_P64_12.calls k t947 t948 _ A11.out) ?_; intro w89 hb; replace HB := hbS hb; clear hb) | ((with_reducible refine gate_callee (f := 16) rfl ?_); refine goA (some 41) Try.func16 (gen_P8_16.calls k a0 a1 t949 _ A12.out) ?_; intro w90 hb; replace HB := hbS hb; clear hb) | ((with_reducible refine gate_callee (f := 17) rfl ?_); refine goA (some 45) Try.func17 (gen_P64_17.calls k t942 t943 t950 _ A13.out) ?_; intro w91 hb; replace HB := hbS hb; clear hb) | ((with_reducible refine gate_callee (f := 12) rfl ?_); refine goA (some 46) Try.func12 (gen_P64_12.calls k t950 t951 _ A14.out) ?_; intro w92 hb; replace HB := hbS hb; clear hb) | ((with_reducible refine gate_callee (f := 18) rfl ?_); refine goA (some 49) Try.func18 (gen_P8_18.calls k a0 a1 t952 _ A15.out) ?_; intro w93 hb; replace HB := hbS hb; clear hb) | ((with_reducible refine gate_callee (f := 20) rfl ?_); refine goA (some 52) Try.func20 (gen_P16_20.calls k a2 t953 _ A16.out) ?_; intro w94 hb; replace HB := hbS hb; clear hb) | ((with_reducible refine gate_callee (f := 20) rfl ?_); refine goA (some 54) Try.func20 (gen_P16_20.calls k a3 t954 _ A17.out) ?_; intro w95 hb; replace HB := hbS hb; clear hb) | ((with_reducible refine gate_callee (f := 17) rfl ?_); refine goA (some 55) Try.func17 (gen_P64_17.calls k t953 t954 t955 _ A18.out) ?_; intro w96 hb; replace HB := hbS hb; clear hb) | ((with_reducible refine gate_callee (f := 19) rfl ?_); refine goA (some 56) Try.func19 (gen_P64_19.calls k t955 t956 _ A19.out) ?_; intro w97 hb; replace HB := hbS hb; clear hb) | ((with_reducible refine gate_callee (f := 21) rfl ?_); refine goA (some 59) Try.func21 (gen_P16_21.calls k a2 a3 t957 _ A20.out) ?_; intro w98 hb; replace HB := hbS hb; clear hb))
     go_ret
     exact ⟨reT, hbT⟩
   ·rw [if_neg c23] at H
    obtain ⟨c23b0, c23b1⟩ := eqN c23
    obtain rfl := Option.some.inj H
    go_enter Try.func3, Try.ntmps3
    go_wp2_with (first | ((with_reducible refine gate_callee (f := 11) rfl ?_); refine goA (some 24) Try.func11 (gen_P8_11.calls k a0 t942 _ A5.out) ?_; intro w99 hb; replace HB := hbS hb; clear hb) | ((with_reducible refine gate_callee (f := 11) rfl ?_); refine goA (some 26) Try.func11 (gen_P8_11.calls k a1 t943 _ A6.out) ?_; intro w100 hb; replace HB := hbS hb; clear hb) | ((with_reducible refine gate_callee (f := 13) rfl ?_); refine goA (some 29) Try.func13 (gen_P64_13.calls k t942 t943 t944 _ A7.out) ?_; intro w101 hb; replace HB := hbS hb; clear hb) | ((with_reducible refine gate_callee (f := 12) rfl ?_); refine goA (some 30) Try.func12 (gen_P64_12.calls k t944 t945 _ A8.out) ?_; intro w102 hb; replace HB := hbS hb; clear hb) | ((with_reducible refine gate_callee (f := 14) rfl ?_); refine goA (some 33) Try.func14 (gen_P8_14.calls k a0 a1 t946 _ A9.out) ?_; intro w103 hb; replace HB := hbS hb; clear hb) | ((with_reducible refine gate_callee (f := 15) rfl ?_); refine goA (some 37) Try.func15 (gen_P64_15.calls k t942 t943 t947 _ A10.out) ?_; intro w104 hb; replace HB := hbS hb; clear hb) | ((with_reducible refine gate_callee (f := 12) rfl ?_); refine goA (some 38) Try.func12 (gen_P64_12.calls k t947 t948 _ A11.out) ?_; intro w105 hb; replace HB := hbS hb; clear hb) | ((with_reducible refine gate_callee (f := 16) rfl ?_); refine goA (some 41) Try.func16 (gen_P8_16.calls k a0 a1 t949 _ A12.out) ?_; intro w106 hb; replace HB := hbS hb; clear hb) | ((with_reducible refine gate_callee (f := 17) rfl ?_); refine goA (some 45) Try.func17 (gen_P64_17.calls k t942 t943 t950 _ A13.out) ?_; intro w107 hb; replace HB := hbS hb; clear hb) | ((with_reducible refine gate_callee (f := 12) rfl ?_); refine goA (some 46) Try.func12 (gen_P64_12.calls k t950 t951 _ A14.out) ?_; intro w108 hb; replace HB := hbS hb; clear hb) | ((with_reducible refine gate_callee (f := 18) rfl ?_); refine goA (some 49) Try.func18 (gen_P8_18.calls k a0 a1 t952 _ A15.out) ?_; intro w109 hb; replace HB := hbS hb; clear hb) | ((with_reducible refine gate_callee (f := 20) rfl ?_); refine goA (some 52) Try.func20 (gen_P16_20.calls k a2 t953 _ A16.out) ?_; intro w110 hb; replace HB := hbS hb; clear hb) | ((with_reducible refine gate_callee (f := 20) rfl ?_); refine goA (some 54) Try.func20 (gen_P16_20.calls k a3 t954 _ A17.out) ?_; intro w111 hb; replace HB := hbS hb; clear hb) | ((with_reducible refine gate_callee (f := 17) rfl ?_); refine goA (some 55) Try.func17 (gen_P64_17.calls k t953 t954 t955 _ A18.out) ?_; intro w112 hb; replace HB := hbS hb; clear hb) | ((with_reducible refine gate_callee (f := 19) rfl ?_); refine goA (some 56) Try.func19 (gen_P64_19.calls k t955 t956 _ A19.out) ?_; intro w113 hb; replace HB := hbS hb; clear hb) | ((with_reducible refine gate_callee (f := 21) rfl ?_); refine goA (some 59) Try.func21 (gen_P16_21.calls k a2 a3 t957 _ A20.out) ?_; intro w114 hb; replace HB := hbS hb; clear hb))
    go_ret
    exact ⟨reT, hbT⟩
  ·rw [if_neg c22] at H
   obtain ⟨c22b0, c22b1⟩ := eqN c22
   obtain rfl := Option.some.inj H
   go_enter Try.func3, Try.ntmps3
   go_wp2_with (first | ((with_reducible refine gate_callee (f := 11) rfl ?_); refine goA (some 24) Try.func11 (gen_P8_11.calls k a0 t942 _ A5.out) ?_; intro w115 hb; replace HB := hbS hb; clear hb) | ((with_reducible refine gate_callee (f := 11) rfl ?_); refine goA (some 26) Try.func11 (gen_P8_11.calls k a1 t943 _ A6.out) ?_; intro w116 hb; replace HB := hbS hb; clear hb) | ((with_reducible refine gate_callee (f := 13) rfl ?_); refine goA (some 29) Try.func13 (gen_P64_13.calls k t942 t943 t944 _ A7.out) ?_; intro w117 hb; replace HB := hbS hb; clear hb) | ((with_reducible refine gate_callee (f := 12) rfl ?_); refine goA (some 30) Try.func12 (gen_P64_12.calls k t944 t945 _ A8.out) ?_; intro w118 hb; replace HB := hbS hb; clear hb) | ((with_reducible refine gate_callee (f := 14) rfl ?_); refine goA (some 33) Try.func14 (gen_P8_14.calls k a0 a1 t946 _ A9.out) ?_; intro w119 hb; replace HB := hbS hb; clear hb) | ((with_reducible refine gate_callee (f := 15) rfl ?_); refine goA (some 37) Try.func15 (gen_P64_15.calls k t942 t943 t947 _ A10.out) ?_; intro w120 hb; replace HB := hbS hb; clear hb) | ((with_reducible refine gate_callee (f := 12) rfl ?_); refine goA (some 38) Try.func12 (gen_P64_12.calls k t947 t948 _ A11.out) ?_; intro w121 hb; replace HB := hbS hb; clear hb) | ((with_reducible refine gate_callee (f := 16) rfl ?_); refine goA (some 41) Try.func16 (gen_P8_16.calls k a0 a1 t949 _ A12.out) ?_; intro w122 hb; replace HB := hbS hb; clear hb) | ((with_reducible refine gate_callee (f := 17) rfl ?_); refine goA (some 45) Try.func17 (gen_P64_17.calls k t942 t943 t950 _ A13.out) ?_; intro w123 hb; replace HB := hbS hb; clear hb) | ((with_reducible refine gate_callee (f := 12) rfl ?_); refine goA (some 46) Try.func12 (gen_P64_12.calls k t950 t951 _ A14.out) ?_; intro w124 hb; replace HB := hbS hb; clear hb) | ((with_reducible refine gate_callee (f := 18) rfl ?_); refine goA (some 49) Try.func18 (gen_P8_18.calls k a0 a1 t952 _ A15.out) ?_; intro w125 hb; replace HB := hbS hb; clear hb) | ((with_reducible refine gate_callee (f := 20) rfl ?_); refine goA (some 52) Try.func20 (gen_P16_20.calls k a2 t953 _ A16.out) ?_; intro w126 hb; replace HB := hbS hb; clear hb) | ((with_reducible refine gate_callee (f := 20) rfl ?_); refine goA (some 54) Try.func20 (gen_P16_20.calls k a3 t954 _ A17.out) ?_; intro w127 hb; replace HB := hbS hb; clear hb) | ((with_reducible refine gate_callee (f := 17) rfl ?_); refine goA (some 55) Try.func17 (gen_P64_17.calls k t953 t954 t955 _ A18.out) ?_; intro w128 hb; replace HB := hbS hb; clear hb) | ((with_reducible refine gate_callee (f := 19) rfl ?_); refine goA (some 56) Try.func19 (gen_P64_19.calls k t955 t956 _ A19.out) ?_; intro w129 hb; replace HB := hbS hb; clear hb) | ((with_reducible refine gate_callee (f := 21) rfl ?_); refine goA (some 59) Try.func21 (gen_P16_21.calls k a2 a3 t957 _ A20.out) ?_; intro w130 hb; replace HB := hbS hb; clear hb))
   go_ret
   exact ⟨reT, hbT⟩
 ·rw [if_neg c21] at H
  obtain ⟨c21b0, c21b1⟩ := eqN c21
  obtain rfl := Option.some.inj H
  go_enter Try.func3, Try.ntmps3
  go_wp2_with (first | ((with_reducible refine gate_callee (f := 11) rfl ?_); refine goA (some 24) Try.func11 (gen_P8_11.calls k a0 t942 _ A5.out) ?_; intro w131 hb; replace HB := hbS hb; clear hb) | ((with_reducible refine gate_callee (f := 11) rfl ?_); refine goA (some 26) Try.func11 (gen_P8_11.calls k a1 t943 _ A6.out) ?_; intro w132 hb; replace HB := hbS hb; clear hb) | ((with_reducible refine gate_callee (f := 13) rfl ?_); refine goA (some 29) Try.func13 (gen_P64_13.calls k t942 t943 t944 _ A7.out) ?_; intro w133 hb; replace HB := hbS hb; clear hb) | ((with_reducible refine gate_callee (f := 12) rfl ?_); refine goA (some 30) Try.func12 (gen_P64_12.calls k t944 t945 _ A8.out) ?_; intro w134 hb; replace HB := hbS hb; clear hb) | ((with_reducible refine gate_callee (f := 14) rfl ?_); refine goA (some 33) Try.func14 (gen_P8_14.calls k a0 a1 t946 _ A9.out) ?_; intro w135 hb; replace HB := hbS hb; clear hb) | ((with_reducible refine gate_callee (f := 15) rfl ?_); refine goA (some 37) Try.func15 (gen_P64_15.calls k t942 t943 t947 _ A10.out) ?_; intro w136 hb; replace HB := hbS hb; clear hb) | ((with_reducible refine gate_callee (f := 12) rfl ?_); refine goA (some 38) Try.func12 (gen_P64_12.calls k t947 t948 _ A11.out) ?_; intro w137 hb; replace HB := hbS hb; clear hb) | ((with_reducible refine gate_callee (f := 16) rfl ?_); refine goA (some 41) Try.func16 (gen_P8_16.calls k a0 a1 t949 _ A12.out) ?_; intro w138 hb; replace HB := hbS hb; clear hb) | ((with_reducible refine gate_callee (f := 17) rfl ?_); refine goA (some 45) Try.func17 (gen_P64_17.calls k t942 t943 t950 _ A13.out) ?_; intro w139 hb; replace HB := hbS hb; clear hb) | ((with_reducible refine gate_callee (f := 12) rfl ?_); refine goA (some 46) Try.func12 (gen_P64_12.calls k t950 t951 _ A14.out) ?_; intro w140 hb; replace HB := hbS hb; clear hb) | ((with_reducible refine gate_callee (f := 18) rfl ?_); refine goA (some 49) Try.func18 (gen_P8_18.calls k a0 a1 t952 _ A15.out) ?_; intro w141 hb; replace HB := hbS hb; clear hb) | ((with_reducible refine gate_callee (f := 20) rfl ?_); refine goA (some 52) Try.func20 (gen_P16_20.calls k a2 t953 _ A16.out) ?_; intro w142 hb; replace HB := hbS hb; clear hb) | ((with_reducible refine gate_callee (f := 20) rfl ?_); refine goA (some 54) Try.func20 (gen_P16_20.calls k a3 t954 _ A17.out) ?_; intro w143 hb; replace HB := hbS hb; clear hb) | ((with_reducible refine gate_callee (f := 17) rfl ?_); refine goA (some 55) Try.func17 (gen_P64_17.calls k t953 t954 t955 _ A18.out) ?_; intro w144 hb; replace HB := hbS hb; clear hb) | ((with_reducible refine gate_callee (f := 19) rfl ?_); refine goA (some 56) Try.func19 (gen_P64_19.calls k t955 t956 _ A19.out) ?_; intro w145 hb; replace HB := hbS hb; clear hb) | ((with_reducible refine gate_callee (f := 21) rfl ?_); refine goA (some 59) Try.func21 (gen_P16_21.calls k a2 a3 t957 _ A20.out) ?_; intro w146 hb; replace HB := hbS hb; clear hb))
  go_ret
  exact ⟨reT, hbT⟩
def verniertop_TopWide.Pure : Prop := ∀ (a0 : Int) (a1 : Int) (a2 : Int) (a3 : Int), (Lit.int .u8 a0).wf = true → (Lit.int .u8 a1).wf = true → (Lit.int .u16 a2).wf = true → (Lit.int .u16 a3).wf = true → ∃ k, verniertop_TopWide.f k a0 a1 a2 a3 = some true
theorem verniertop_TopWide.walk (P : verniertop_TopWide.Pure) (a0 : Int) (a1 : Int) (a2 : Int) (a3 : Int) (w : World) (w0 : (Lit.int .u8 a0).wf = true) (w1 : (Lit.int .u8 a1).wf = true) (w2 : (Lit.int .u16 a2).wf = true) (w3 : (Lit.int .u16 a3).wf = true) :
  Calls Try.prog 3 #[.int .u8 a0, .int .u8 a1, .int .u16 a2, .int .u16 a3] w fun e w' => e = .returned (.bool true) ∧ Below w.heap.size w w' := by
 obtain ⟨k, h⟩ := P a0 a1 a2 a3 w0 w1 w2 w3
 refine (verniertop_TopWide.calls k a0 a1 a2 a3 true w h).mono ?_
 rintro e w' ⟨rfl, hd⟩
 exact ⟨rfl, hd⟩
end Go.Proofs.Ytnlbfomlfhigcaa.Q
namespace Go.Proofs.Ytnlbfomlfhigcaa.M
def tl (s : Int) (F : Nat) : Nat := (s % 4).toNat * 2 ^ 127 + (F - 2 ^ 127)
def str (s : Int) (F : Nat) : Nat :=
  if 0 ≤ s / 4 then 2 ^ 200 - 2 ^ 130 * 2 ^ (69 - (s / 4).toNat) + tl s F * 2 ^ (69 - (s / 4).toNat)
  else 2 ^ 129 * 2 ^ (70 - (-(s / 4)).toNat) + tl s F * 2 ^ (70 - (-(s / 4)).toNat)
theorem tl_lt {s : Int} {F : Nat} (hF : F < 2 ^ 128) : tl s F < 2 ^ 129 := by
  unfold tl
  have h1 : (s % 4).toNat ≤ 3 := by omega
  omega
theorem str_pos {s : Int} {F k : Nat} (h : s / 4 = (k : Int)) : str s F = 2 ^ 200 - 2 ^ 130 * 2 ^ (69 - k) + tl s F * 2 ^ (69 - k) := by
  unfold str
  rw [if_pos (by omega), h]
  rfl
theorem str_neg {s : Int} {F r : Nat} (h : s / 4 = -(r : Int)) (hr : 1 ≤ r) : str s F = 2 ^ 129 * 2 ^ (70 - r) + tl s F * 2 ^ (70 - r) := by
  unfold str
  rw [if_neg (by omega), h, show (-(-(r : Int))).toNat = r by omega]
theorem pow_le {a b : Nat} (h : a ≤ b) : 2 ^ a ≤ 2 ^ b := Nat.pow_le_pow_right (by omega) h
theorem pow_dbl {a b : Nat} (h : a + 1 ≤ b) : 2 * 2 ^ a ≤ 2 ^ b := by
  have := pow_le h
  rw [Nat.pow_succ] at this
  omega
theorem pow_pos (a : Nat) : 1 ≤ 2 ^ a := Nat.one_le_two_pow
theorem pos_room {k : Nat} (h : k ≤ 69) : 2 ^ 130 * 2 ^ (69 - k) ≤ 2 ^ 199 := by
  have := pow_le (show 69 - k ≤ 69 by omega)
  calc 2 ^ 130 * 2 ^ (69 - k) ≤ 2 ^ 130 * 2 ^ 69 := Nat.mul_le_mul_left _ this
    _ = 2 ^ 199 := by rw [← Nat.pow_add]
theorem str_pos_bd {s : Int} {F k : Nat} (h : s / 4 = (k : Int)) (hk : k ≤ 69) (hF : F < 2 ^ 128) :
    2 ^ 200 - 2 ^ 130 * 2 ^ (69 - k) ≤ str s F ∧ str s F < 2 ^ 200 - 2 ^ 129 * 2 ^ (69 - k) ∧ 2 ^ 199 ≤ str s F := by
  rw [str_pos h]
  have h1 := pos_room hk
  have h2 := tl_lt (s := s) hF
  have h3 := pow_pos (69 - k)
  generalize 2 ^ (69 - k) = a at *
  have h4 : tl s F * a + a ≤ 2 ^ 129 * a := by
    have := Nat.mul_le_mul_right a (show tl s F + 1 ≤ 2 ^ 129 by omega)
    rw [Nat.add_mul] at this
    omega
  generalize tl s F * a = b at *
  have h5 : 2 ^ 130 * a = 2 * (2 ^ 129 * a) := by rw [← Nat.mul_assoc, ← Nat.pow_succ']
  omega
theorem str_neg_bd {s : Int} {F r : Nat} (h : s / 4 = -(r : Int)) (hr : 1 ≤ r) (hr2 : r ≤ 70) (hF : F < 2 ^ 128) :
    2 ^ 129 * 2 ^ (70 - r) ≤ str s F ∧ str s F < 2 ^ 130 * 2 ^ (70 - r) ∧ str s F < 2 ^ 199 := by
  rw [str_neg h hr]
  have h2 := tl_lt (s := s) hF
  have h3 := pow_pos (70 - r)
  have h6 : 2 ^ 130 * 2 ^ (70 - r) ≤ 2 ^ 199 := by
    calc 2 ^ 130 * 2 ^ (70 - r) ≤ 2 ^ 130 * 2 ^ 69 := Nat.mul_le_mul_left _ (pow_le (by omega))
      _ = 2 ^ 199 := by rw [← Nat.pow_add]
  generalize 2 ^ (70 - r) = a at *
  have h4 : tl s F * a + a ≤ 2 ^ 129 * a := by
    have := Nat.mul_le_mul_right a (show tl s F + 1 ≤ 2 ^ 129 by omega)
    rw [Nat.add_mul] at this
    omega
  generalize tl s F * a = b at *
  have h5 : 2 ^ 130 * a = 2 * (2 ^ 129 * a) := by rw [← Nat.mul_assoc, ← Nat.pow_succ']
  omega
theorem tl_mono {s s' : Int} {F F' : Nat} (hk : s / 4 = s' / 4) (hF : 2 ^ 127 ≤ F) (hF2 : F < 2 ^ 128) (hG : 2 ^ 127 ≤ F') (h : s < s' ∨ (s = s' ∧ F < F')) : tl s F < tl s' F' := by
  unfold tl
  rcases h with h | ⟨rfl, h⟩
  · have h1 : (s % 4).toNat + 1 ≤ (s' % 4).toNat := by omega
    omega
  · omega
theorem str_lt {s s' : Int} {F F' : Nat} (hs : -270 ≤ s) (hs2 : s ≤ 270) (ht : -270 ≤ s') (ht2 : s' ≤ 270) (hF : 2 ^ 127 ≤ F) (hF2 : F < 2 ^ 128) (hG : 2 ^ 127 ≤ F') (hG2 : F' < 2 ^ 128)
    (h : s < s' ∨ (s = s' ∧ F < F')) : str s F < str s' F' := by
  have hk : s / 4 ≤ s' / 4 := by omega
  by_cases h0 : 0 ≤ s / 4
  · obtain ⟨k, hk0⟩ := Int.eq_ofNat_of_zero_le h0
    obtain ⟨k', hk1⟩ := Int.eq_ofNat_of_zero_le (show 0 ≤ s' / 4 by omega)
    by_cases e : k = k'
    · subst e
      have := tl_mono (by omega) hF hF2 hG h
      rw [str_pos hk0, str_pos hk1]
      have h1 := pos_room (show k ≤ 69 by omega)
      have h2 : tl s F * 2 ^ (69 - k) < tl s' F' * 2 ^ (69 - k) := Nat.mul_lt_mul_of_pos_right this (pow_pos _)
      omega
    · have h1 := str_pos_bd hk0 (by omega) hF2
      have h2 := str_pos_bd hk1 (by omega) hG2
      have h3 := pow_dbl (show (69 - k') + 1 ≤ 69 - k by omega)
      have h4 := pos_room (show k ≤ 69 by omega)
      have h5 := pos_room (show k' ≤ 69 by omega)
      generalize 2 ^ (69 - k) = a at *
      generalize 2 ^ (69 - k') = b at *
      have h6 : 2 ^ 130 * b = 2 ^ 129 * (2 * b) := by rw [← Nat.mul_assoc, ← Nat.pow_succ]
      have h7 : 2 ^ 129 * (2 * b) ≤ 2 ^ 129 * a := Nat.mul_le_mul_left _ h3
      omega
  · obtain ⟨r, hr0⟩ : ∃ r : Nat, s / 4 = -(r : Int) := ⟨(-(s / 4)).toNat, by omega⟩
    have g1 := str_neg_bd hr0 (by omega) (by omega) hF2
    by_cases h1 : 0 ≤ s' / 4
    · obtain ⟨k', hk1⟩ := Int.eq_ofNat_of_zero_le h1
      have h2 := str_pos_bd hk1 (by omega) hG2
      omega
    · obtain ⟨r', hr1⟩ : ∃ r : Nat, s' / 4 = -(r : Int) := ⟨(-(s' / 4)).toNat, by omega⟩
      by_cases e : r = r'
      · subst e
        have := tl_mono (by omega) hF hF2 hG h
        rw [str_neg hr0 (by omega), str_neg hr1 (by omega)]
        have h2 : tl s F * 2 ^ (70 - r) < tl s' F' * 2 ^ (70 - r) := Nat.mul_lt_mul_of_pos_right this (pow_pos _)
        omega
      · have g2 := str_neg_bd hr1 (by omega) (by omega) hG2
        have h3 := pow_dbl (show (70 - r) + 1 ≤ 70 - r' by omega)
        generalize 2 ^ (70 - r) = a at *
        generalize 2 ^ (70 - r') = b at *
        have h6 : 2 ^ 130 * a = 2 ^ 129 * (2 * a) := by rw [← Nat.mul_assoc, ← Nat.pow_succ]
        have h7 : 2 ^ 129 * (2 * a) ≤ 2 ^ 129 * b := Nat.mul_le_mul_left _ h3
        omega
theorem str_inj {s s' : Int} {F F' : Nat} (hs : -270 ≤ s) (hs2 : s ≤ 270) (ht : -270 ≤ s') (ht2 : s' ≤ 270) (hF : 2 ^ 127 ≤ F) (hF2 : F < 2 ^ 128) (hG : 2 ^ 127 ≤ F') (hG2 : F' < 2 ^ 128)
    (h : str s F = str s' F') : s = s' ∧ F = F' := by
  rcases Int.lt_trichotomy s s' with a | a | a
  · have := str_lt hs hs2 ht ht2 hF hF2 hG hG2 (.inl a); omega
  · rcases Nat.lt_trichotomy F F' with b | b | b
    · have := str_lt hs hs2 ht ht2 hF hF2 hG hG2 (.inr ⟨a, b⟩); omega
    · exact ⟨a, b⟩
    · have := str_lt ht ht2 hs hs2 hG hG2 hF hF2 (.inr ⟨a.symm, b⟩); omega
  · have := str_lt ht ht2 hs hs2 hG hG2 hF hF2 (.inl a); omega
def rnd (D V : Nat) : Nat := if D < 2 * (V % D) ∨ (D = 2 * (V % D) ∧ V / D % 2 = 1) then V / D + 1 else V / D
theorem rnd_bd (D V : Nat) : V / D ≤ rnd D V ∧ rnd D V ≤ V / D + 1 := by
  unfold rnd
  split <;> omega
theorem rnd_mul {D q : Nat} (hD : 0 < D) : rnd D (q * D) = q := by
  unfold rnd
  rw [Nat.mul_mod_left, Nat.mul_div_cancel _ hD, if_neg (by omega)]
def rpos (n : Nat) (s : Int) (F : Nat) (b : Bool) : Nat :=
  if 4 * (n : Int) - 8 ≤ s then 2 ^ (n - 1) - 1 else if s < 8 - 4 * (n : Int) then 1 else rnd (2 ^ (202 - n)) (2 * str s F + b.toNat)
theorem toNat_le (b : Bool) : b.toNat ≤ 1 := by cases b <;> decide
def Wd (n : Nat) : Prop := n = 8 ∨ n = 16 ∨ n = 32 ∨ n = 64
theorem Wd.bd {n : Nat} (h : Wd n) : 8 ≤ n ∧ n ≤ 64 := by unfold Wd at h; omega
theorem unit_eq {n : Nat} (h : Wd n) : 2 ^ (n - 1) * 2 ^ (201 - n) = 2 ^ 200 ∧ 2 ^ (202 - n) = 2 * 2 ^ (201 - n) := by
  have := h.bd
  constructor
  · rw [← Nat.pow_add]; congr 1; omega
  · rw [← Nat.pow_succ']; congr 1; omega
theorem rnd_in {n : Nat} (hn : Wd n) {s : Int} {F : Nat} (b : Bool) (h1 : 8 - 4 * (n : Int) ≤ s) (h2 : s < 4 * (n : Int) - 8) (hF2 : F < 2 ^ 128) :
    1 ≤ rnd (2 ^ (202 - n)) (2 * str s F + b.toNat) ∧ rnd (2 ^ (202 - n)) (2 * str s F + b.toNat) ≤ 2 ^ (n - 1) - 1 := by
  have hb := hn.bd
  have hbb := toNat_le b
  obtain ⟨u1, u2⟩ := unit_eq hn
  have r := rnd_bd (2 ^ (202 - n)) (2 * str s F + b.toNat)
  have up : str s F < 2 ^ 200 - 2 ^ (201 - n) := by
    by_cases h0 : 0 ≤ s / 4
    · obtain ⟨k, hk⟩ := Int.eq_ofNat_of_zero_le h0
      have := (str_pos_bd hk (by omega) hF2).2.1
      have e : 2 ^ (201 - n) ≤ 2 ^ 129 * 2 ^ (69 - k) := by rw [← Nat.pow_add]; exact pow_le (by omega)
      have := pos_room (show k ≤ 69 by omega)
      omega
    · obtain ⟨r, hr⟩ : ∃ r : Nat, s / 4 = -(r : Int) := ⟨(-(s / 4)).toNat, by omega⟩
      have := (str_neg_bd hr (by omega) (by omega) hF2).2.2
      have e : 2 ^ (201 - n) ≤ 2 ^ 193 := pow_le (by omega)
      omega
  have lo : 2 ^ (201 - n) ≤ str s F := by
    by_cases h0 : 0 ≤ s / 4
    · obtain ⟨k, hk⟩ := Int.eq_ofNat_of_zero_le h0
      have := (str_pos_bd hk (by omega) hF2).2.2
      have e : 2 ^ (201 - n) ≤ 2 ^ 193 := pow_le (by omega)
      omega
    · obtain ⟨r, hr⟩ : ∃ r : Nat, s / 4 = -(r : Int) := ⟨(-(s / 4)).toNat, by omega⟩
      have := (str_neg_bd hr (by omega) (by omega) hF2).1
      have e : 2 ^ (201 - n) ≤ 2 ^ 129 * 2 ^ (70 - r) := by rw [← Nat.pow_add]; exact pow_le (by omega)
      omega
  have hp := pow_pos (201 - n)
  have hq := pow_pos (n - 1)
  generalize str s F = S at *
  rw [u2] at r ⊢
  generalize 2 ^ (201 - n) = d at *
  generalize 2 ^ (n - 1) = m at *
  have q1 : 1 ≤ (2 * S + b.toNat) / (2 * d) := (Nat.le_div_iff_mul_le (by omega)).2 (by omega)
  have q2 : (2 * S + b.toNat) / (2 * d) < m - 1 := by
    rw [Nat.div_lt_iff_lt_mul (by omega)]
    have : (m - 1) * (2 * d) = 2 * (m * d) - 2 * d := by rw [Nat.sub_mul, Nat.one_mul, Nat.mul_left_comm]
    rw [this, u1]
    omega
  omega
theorem rpos_bd {n : Nat} (hn : Wd n) (s : Int) {F : Nat} (b : Bool) (hF2 : F < 2 ^ 128) : 1 ≤ rpos n s F b ∧ rpos n s F b ≤ 2 ^ (n - 1) - 1 := by
  have hb := hn.bd
  have : 2 ^ 1 ≤ 2 ^ (n - 1) := pow_le (by omega)
  unfold rpos
  split
  · omega
  · split
    · omega
    · exact rnd_in hn b (by omega) (by omega) hF2
def Dec (n p : Nat) (s : Int) (f : Nat) : Prop :=
  2 ^ 63 ≤ f ∧ f < 2 ^ 64 ∧ 8 - 4 * (n : Int) ≤ s ∧ s ≤ 4 * (n : Int) - 8 ∧ str s (f * 2 ^ 64) = p * 2 ^ (201 - n)
theorem Dec.F {n p : Nat} {s : Int} {f : Nat} (h : Dec n p s f) : 2 ^ 127 ≤ f * 2 ^ 64 ∧ f * 2 ^ 64 < 2 ^ 128 := by
  unfold Dec at h
  omega
theorem Dec.uniq {n p : Nat} (hn : Wd n) {s s' : Int} {f f' : Nat} (h : Dec n p s f) (h' : Dec n p s' f') : s = s' ∧ f = f' := by
  have hb := hn.bd
  have := str_inj (by unfold Dec at h; omega) (by unfold Dec at h; omega) (by unfold Dec at h'; omega) (by unfold Dec at h'; omega) h.F.1 h.F.2 h'.F.1 h'.F.2 (h.2.2.2.2.trans h'.2.2.2.2.symm)
  exact ⟨this.1, by omega⟩
theorem Dec.pos {n p : Nat} (hn : Wd n) {s : Int} {f : Nat} (h : Dec n p s f) (hs : s = 4 * (n : Int) - 8) : 2 ^ (n - 1) - 1 ≤ p := by
  have hb := hn.bd
  have h1 := (str_pos_bd (s := s) (F := f * 2 ^ 64) (k := n - 2) (by omega) (by omega) h.F.2).1
  obtain ⟨u1, u2⟩ := unit_eq hn
  rw [h.2.2.2.2] at h1
  have e : 2 ^ 130 * 2 ^ (69 - (n - 2)) = 2 ^ (201 - n) := by rw [← Nat.pow_add]; congr 1; omega
  rw [e, ← u1] at h1
  have hp := pow_pos (201 - n)
  have hq := pow_pos (n - 1)
  generalize 2 ^ (201 - n) = d at *
  have : (2 ^ (n - 1) - 1) * d ≤ p * d := by rw [Nat.sub_mul, Nat.one_mul]; exact h1
  exact Nat.le_of_mul_le_mul_right this hp
theorem Dec.widen {n m p : Nat} (hn : Wd n) (hm : Wd m) (hnm : n ≤ m) {s : Int} {f : Nat} (h : Dec n p s f) (hp : p < 2 ^ (n - 1)) :
    rpos m s (f * 2 ^ 64) false = p * 2 ^ (m - n) ∧ Dec m (p * 2 ^ (m - n)) s f := by
  have hb := hn.bd
  have hb' := hm.bd
  have e1 : p * 2 ^ (m - n) * 2 ^ (201 - m) = p * 2 ^ (201 - n) := by rw [Nat.mul_assoc, ← Nat.pow_add]; congr 2; omega
  have h2 := h
  unfold Dec at h2
  constructor
  · unfold rpos
    by_cases e : 4 * (m : Int) - 8 ≤ s
    · have : m = n := by omega
      subst this
      have := h.pos hn (by omega)
      rw [if_pos e, Nat.sub_self, Nat.pow_zero]
      omega
    · rw [if_neg e, if_neg (by omega), h2.2.2.2.2, ← e1]
      have : 2 * (p * 2 ^ (m - n) * 2 ^ (201 - m)) + false.toNat = p * 2 ^ (m - n) * 2 ^ (202 - m) := by
        rw [(unit_eq hm).2]
        show 2 * _ + 0 = _
        rw [Nat.add_zero, Nat.mul_left_comm]
      rw [this]
      exact rnd_mul (pow_pos _)
  · unfold Dec
    refine ⟨h2.1, h2.2.1, by omega, by omega, ?_⟩
    rw [h2.2.2.2.2, e1]
theorem Dec.back {n p : Nat} (hn : Wd n) {s : Int} {f : Nat} (h : Dec n p s f) (hp : p < 2 ^ (n - 1)) : rpos n s (f * 2 ^ 64) false = p := by
  have := (h.widen hn hn (Nat.le_refl _) hp).1
  rw [Nat.sub_self, Nat.pow_zero, Nat.mul_one] at this
  exact this
end Go.Proofs.Ytnlbfomlfhigcaa.M
namespace Go.Proofs.Ytnlbfomlfhigcaa.M
open Go.RowKit Go.Proofs.YtnlbfomlfhigcaaW.PrintWords Go.Proofs.YtnlbfomlfhigcaaW.PrintLast Go.Proofs.YtnlbfomlfhigcaaW.PrintMore
theorem u64w (n : Int) : IntKind.u64.wrap n = n % 18446744073709551616 := by simp [IntKind.wrap, IntKind.bits, IntKind.signed]
theorem wrap64_id {n : Int} (h : -9223372036854775808 ≤ n) (h' : n ≤ 9223372036854775807) : wrap64 n = n := by unfold wrap64; omega
theorem p64 : (2 : Nat) ^ 64 = 18446744073709551616 := by decide
theorem p63 : (2 : Nat) ^ 63 = 9223372036854775808 := by decide
theorem cast_pow (j : Nat) : ((2 : Int) ^ j) = ((2 ^ j : Nat) : Int) := by simp
theorem shl_nat (x j : Nat) (hj : j ≤ 64) : shl .u64 (x : Int) (j : Int) = ((x * 2 ^ j % 2 ^ 64 : Nat) : Int) := by
  unfold shl
  rw [u64w, Int.toNat_natCast, Nat.min_eq_left (show j ≤ IntKind.u64.bits from hj), cast_pow, p64]
  omega
theorem shr_nat (x j : Nat) (hj : j ≤ 64) : shr .u64 (x : Int) (j : Int) = ((x / 2 ^ j : Nat) : Int) := by
  unfold shr
  rw [Int.toNat_natCast, Nat.min_eq_left (show j ≤ IntKind.u64.bits from hj), cast_pow]
  simp
theorem wraps_u64 (n : Int) (h₀ : 0 ≤ n) (h₁ : n < 2 ^ 64) : IntKind.u64.wrap n = n := by rw [u64w]; omega
theorem and_nat (a b : Nat) (ha : a < 2 ^ 64) (hb : b < 2 ^ 64) : Go.bits .and .u64 (a : Int) (b : Int) = ((a &&& b : Nat) : Int) :=
  (bits_nat .u64 64 (by decide) wraps_u64 a b ha hb).1
theorem or_nat (a b : Nat) (ha : a < 2 ^ 64) (hb : b < 2 ^ 64) : Go.bits .or .u64 (a : Int) (b : Int) = ((a ||| b : Nat) : Int) :=
  (bits_nat .u64 64 (by decide) wraps_u64 a b ha hb).2
theorem and_mask (a j : Nat) (ha : a < 2 ^ 64) (hj : j ≤ 64) : Go.bits .and .u64 (a : Int) ((2 ^ j - 1 : Nat) : Int) = ((a % 2 ^ j : Nat) : Int) := by
  have : 2 ^ j ≤ 2 ^ 64 := Nat.pow_le_pow_right (by decide) hj
  rw [and_nat a _ ha (by omega), Nat.and_two_pow_sub_one_eq_mod]
theorem or_add (a b i : Nat) (ha : a < 2 ^ 64) (hb : b < 2 ^ i) (hi : i ≤ 64) (hd : a % 2 ^ i = 0) : Go.bits .or .u64 (a : Int) (b : Int) = ((a + b : Nat) : Int) := by
  have : 2 ^ i ≤ 2 ^ 64 := Nat.pow_le_pow_right (by decide) hi
  rw [or_nat a b ha (by omega)]
  have hq : a = 2 ^ i * (a / 2 ^ i) := by
    have := Nat.div_add_mod a (2 ^ i)
    omega
  rw [hq, ← Nat.two_pow_add_eq_or_of_lt hb (a / 2 ^ i)]
theorem xor_all (a : Nat) (ha : a < 2 ^ 64) : Go.bits .xor .u64 18446744073709551615 (a : Int) = ((2 ^ 64 - 1 - a : Nat) : Int) := by
  have e : (18446744073709551615 : Int) = ((2 ^ 64 - 1 : Nat) : Int) := by decide
  unfold Go.bits
  rw [e]
  simp only [BitVec.ofInt_natCast]
  have h1 : BitVec.ofNat 64 (2 ^ 64 - 1) = BitVec.allOnes 64 := by rfl
  show IntKind.u64.wrap ((BitVec.ofNat 64 (2 ^ 64 - 1) ^^^ BitVec.ofNat 64 a).toNat : Nat) = _
  rw [h1, BitVec.allOnes_xor, BitVec.toNat_not, BitVec.toNat_ofNat, Nat.mod_eq_of_lt ha, u64w, p64]
  rw [p64] at ha
  omega
theorem mn_nat (a b : Nat) : mn (a : Int) (b : Int) = ((min a b : Nat) : Int) := by unfold mn; omega
end Go.Proofs.Ytnlbfomlfhigcaa.M
namespace Go.Proofs.Ytnlbfomlfhigcaa.M
open Go.RowKit Go.Proofs.YtnlbfomlfhigcaaW.PrintWords Go.Proofs.YtnlbfomlfhigcaaW.PrintLast Go.Proofs.YtnlbfomlfhigcaaW.PrintMore Go.Proofs.Ytnlbfomlfhigcaa.Q
theorem is_yes {n : Nat} (h : Wd n) : shape_is.f (n : Int) = some true := by rcases h with rfl | rfl | rfl | rfl <;> decide +kernel
theorem of_yes {n : Nat} (h : Wd n) : shape_Of.f (n : Int) = some ((n : Int), ((2 ^ (n - 1) - 1 : Nat) : Int), 1, ((2 ^ (n - 1) : Nat) : Int), 4 * (n : Int) - 8, none) := by rcases h with rfl | rfl | rfl | rfl <;> decide +kernel
theorem mask_yes {n : Nat} (h : Wd n) : lead_Mask.f (n : Int) = some (((2 ^ n - 1 : Nat) : Int), none) := by rcases h with rfl | rfl | rfl | rfl <;> decide +kernel
theorem fold_yes {n : Nat} (h : Wd n) {x : Nat} (hx : x < 2 ^ 64) : shape_Fold.f (n : Int) (x : Int) = some (((x % 2 ^ n : Nat) : Int), none) := by
  unfold shape_Fold.f
  rw [is_yes h]
  simp only [Option.bind_some, if_true]
  rw [mask_yes h]
  simp only [Option.bind_some]
  rw [and_mask x n hx (by have := h.bd; omega)]
theorem high_eq {n : Nat} (h : Wd n) : 0 ≤ wrap64 ((n : Int) - 1) ∧ shl .u64 1 (wrap64 ((n : Int) - 1)) = ((2 ^ (n - 1) : Nat) : Int) := by rcases h with rfl | rfl | rfl | rfl <;> decide +kernel
def knd (n y : Nat) : Nat := if y = 0 then 0 else if y = 2 ^ (n - 1) then 2 else 1
theorem kind_yes {n : Nat} (h : Wd n) {x : Nat} (hx : x < 2 ^ 64) : shape_Kind.f (n : Int) (x : Int) = some (((knd n (x % 2 ^ n) : Nat) : Int), none) := by
  unfold shape_Kind.f
  rw [fold_yes h hx]
  simp only [Option.bind_some, Option.isNone_none, if_true]
  generalize x % 2 ^ n = y
  rw [if_pos (high_eq h).1, (high_eq h).2]
  unfold knd
  by_cases e : y = 0
  · rw [if_pos e, if_pos (by omega)]; rfl
  · rw [if_neg e, if_neg (by omega)]
    by_cases e2 : y = 2 ^ (n - 1)
    · rw [if_pos e2, if_pos (by rw [e2])]; rfl
    · rw [if_neg e2, if_neg (by omega)]; rfl
def rk (n y : Nat) : Int := if y < 2 ^ (n - 1) then (y : Int) else (y : Int) - (2 ^ n : Nat)
theorem rank_yes {n : Nat} (h : Wd n) (x : Nat) : shape_Rank.f (n : Int) (x : Int) = some (rk n (x % 2 ^ n), none) := by
  unfold shape_Rank.f
  rw [is_yes h]
  simp only [Option.bind_some, if_true]
  unfold lead_Extend.f
  have e1 : ¬ (n : Int) < 1 := by have := h.bd; omega
  have e2 : ¬ (n : Int) > 64 := by have := h.bd; omega
  have e3 : wrap64 (64 - (n : Int)) = ((64 - n : Nat) : Int) := by have := h.bd; unfold wrap64; omega
  rw [if_neg e1, if_neg e2, e3, if_pos (by omega), shl_nat x (64 - n) (by omega)]
  simp only [Option.bind_some]
  congr 2
  unfold shr rk
  rw [Int.toNat_natCast, Nat.min_eq_left (show 64 - n ≤ IntKind.i64.bits from by show _ ≤ 64; omega), cast_pow]
  unfold wrap64
  rcases h with rfl | rfl | rfl | rfl <;> simp only [Nat.reduceSub, Nat.reducePow] <;> split <;> omega
theorem ones_nat {j : Nat} (hj : j ≤ 64) : lead_ones.f (j : Int) = some ((2 ^ j - 1 : Nat) : Int) := by
  unfold lead_ones.f
  by_cases e : j = 64
  · subst e; decide
  · rw [if_neg (by omega), if_pos (by omega)]
    have : shl .u64 1 (j : Int) = ((2 ^ j : Nat) : Int) := by
      have h1 := shl_nat 1 j (by omega)
      rw [Nat.one_mul, Nat.mod_eq_of_lt (Nat.pow_lt_pow_right (by decide) (by omega))] at h1
      exact h1
    rw [this, u64w]
    have h2 : 2 ^ j < 2 ^ 64 := Nat.pow_lt_pow_right (by decide) (by omega)
    have h3 := pow_pos j
    rw [p64] at h2
    congr 1
    omega
theorem field_nat {x a j : Nat} (hx : x < 2 ^ 64) (ha : a ≤ 64) (hj : j ≤ 64 - a) : lead_Field.f (x : Int) (a : Int) (j : Int) = some (((x / 2 ^ a % 2 ^ j : Nat) : Int), none) := by
  unfold lead_Field.f
  have e : lead_field.f (a : Int) (j : Int) = some true := by
    unfold lead_field.f
    rw [if_pos (by omega), if_pos (by omega), if_pos (by omega)]
    congr 1
    simp only [decide_eq_true_eq]
    unfold wrap64
    omega
  rw [e]
  simp only [Option.bind_some, if_true]
  rw [if_pos (by omega), ones_nat (by omega), shr_nat x a ha]
  simp only [Option.bind_some]
  rw [and_mask _ j (Nat.lt_of_le_of_lt (Nat.div_le_self _ _) hx) (by omega)]
end Go.Proofs.Ytnlbfomlfhigcaa.M
namespace Go.Proofs.Ytnlbfomlfhigcaa.M
def Runs (L y r : Nat) (ones : Bool) : Prop :=
  1 ≤ r ∧ r ≤ L ∧ (if ones then 2 ^ L ≤ y + 2 ^ (L - r) ∧ (r = L ∨ y + 2 ^ (L - r - 1) < 2 ^ L) else y < 2 ^ (L - r) ∧ (r = L ∨ 2 ^ (L - r - 1) ≤ y))
theorem Runs.rest {L y r : Nat} {ones : Bool} (h : Runs L y r ones) (hy : 1 ≤ y) (hy2 : y < 2 ^ L) :
    (ones = true → y = 2 ^ L - 2 ^ (L - r) + y % 2 ^ (L - r - 1)) ∧ (ones = false → r < L ∧ y = 2 ^ (L - r - 1) + y % 2 ^ (L - r - 1)) := by
  obtain ⟨h1, h2, h3⟩ := h
  constructor
  · rintro rfl
    rw [if_pos rfl] at h3
    obtain ⟨h3, h4⟩ := h3
    have p1 := pow_le (show L - r ≤ L by omega)
    rcases h4 with h4 | h4
    · subst h4
      rw [Nat.sub_self, Nat.pow_zero] at h3
      simp only [Nat.sub_self, Nat.pow_zero, Nat.zero_sub, Nat.mod_one]
      omega
    · by_cases e : r = L
      · subst e
        rw [Nat.sub_self, Nat.pow_zero] at h3
        simp only [Nat.sub_self, Nat.pow_zero, Nat.zero_sub, Nat.mod_one]
        omega
      · have e1 : 2 ^ (L - r) = 2 * 2 ^ (L - r - 1) := by rw [← Nat.pow_succ']; exact congrArg (2 ^ ·) (by omega)
        have e2 : 2 ^ L = 2 ^ (r + 1) * 2 ^ (L - r - 1) := by rw [← Nat.pow_add]; exact congrArg (2 ^ ·) (by omega)
        have p2 := pow_pos (r + 1)
        have p3 : 2 ≤ 2 ^ (r + 1) := by rw [Nat.pow_succ]; have := pow_pos r; omega
        generalize 2 ^ (L - r - 1) = d at *
        generalize 2 ^ (r + 1) = a at *
        obtain ⟨a, rfl⟩ : ∃ b, a = b + 2 := ⟨a - 2, by omega⟩
        have e3 : (a + 2) * d = a * d + 2 * d := Nat.add_mul _ _ _
        have hq : y = a * d + (y - a * d) := by omega
        have hm : y % d = y - a * d := by
          rw [hq, Nat.add_comm (a * d), Nat.add_mul_mod_self_right, Nat.mod_eq_of_lt (by omega)]
          omega
        omega
  · rintro rfl
    simp only [Bool.false_eq_true, if_false] at h3
    obtain ⟨h3, h4⟩ := h3
    have hr : r ≠ L := by
      rintro rfl
      rw [Nat.sub_self, Nat.pow_zero] at h3
      omega
    refine ⟨by omega, ?_⟩
    rcases h4 with h4 | h4
    · exact absurd h4 hr
    · have e1 : 2 ^ (L - r) = 2 * 2 ^ (L - r - 1) := by rw [← Nat.pow_succ']; exact congrArg (2 ^ ·) (by omega)
      generalize 2 ^ (L - r - 1) = d at *
      have hq : y = (y - d) + 1 * d := by omega
      have hm : y % d = y - d := by
        rw [hq, Nat.add_mul_mod_self_right, Nat.mod_eq_of_lt (by omega)]
        omega
      omega
def reg (r : Nat) (ones : Bool) : Int := if ones then (r : Int) - 1 else -(r : Int)
theorem parse_dec {n y r : Nat} (hn : Wd n) (ones : Bool) (hy : 1 ≤ y) (hy2 : y < 2 ^ (n - 1)) (h : Runs (n - 1) y r ones) (m eb fb e fr : Nat)
    (hm : m = n - 1 - r - 1) (heb : eb = min m 2) (hfb : fb = m - eb) (he : e = y / 2 ^ fb % 2 ^ eb) (hfr : fr = y % 2 ^ fb) :
    Dec n y (4 * reg r ones + ((e * 2 ^ (2 - eb) : Nat) : Int)) (2 ^ 63 + fr * 2 ^ (63 - fb)) ∧ fb ≤ 61 ∧ e * 2 ^ (2 - eb) ≤ 3 ∧ fr < 2 ^ fb := by
  have hb := hn.bd
  have hR := h
  obtain ⟨h1, h2, _⟩ := h
  have hfr2 : fr < 2 ^ fb := by rw [hfr]; exact Nat.mod_lt _ (pow_pos _)
  have hem : y % 2 ^ m = e * 2 ^ fb + fr := by
    have : m = fb + eb := by omega
    rw [this, Nat.pow_add, Nat.mod_mul, he, hfr]
    rw [Nat.mul_comm]
    omega
  have hfb61 : fb ≤ 61 := by omega

  have hcase : (m = 0 ∧ eb = 0 ∧ fb = 0) ∨ (m = 1 ∧ eb = 1 ∧ fb = 0) ∨ (2 ≤ m ∧ eb = 2 ∧ fb = m - 2) := by omega
  have he3 : e * 2 ^ (2 - eb) ≤ 3 := by
    have : e < 2 ^ eb := by rw [he]; exact Nat.mod_lt _ (pow_pos _)
    rcases hcase with ⟨_, rfl, _⟩ | ⟨_, rfl, _⟩ | ⟨_, rfl, _⟩ <;> simp only [Nat.reduceSub, Nat.reducePow] at * <;> omega
  have htl : e * 2 ^ (2 - eb) * 2 ^ 127 + fr * 2 ^ (127 - fb) = (y % 2 ^ m) * 2 ^ (129 - m) := by
    rw [hem, Nat.add_mul]
    rcases hcase with ⟨rfl, rfl, rfl⟩ | ⟨rfl, rfl, rfl⟩ | ⟨hm2, rfl, rfl⟩
    · have : fr = 0 := by simpa using hfr2
      have : e = 0 := by rw [he, Nat.pow_zero, Nat.mod_one]
      subst_vars
      omega
    · have : fr = 0 := by simpa using hfr2
      rw [this]
      omega
    · rw [show 2 - 2 = 0 from rfl, Nat.pow_zero, Nat.mul_one, show 127 - (m - 2) = 129 - m by omega, Nat.mul_assoc, ← Nat.pow_add, show m - 2 + (129 - m) = 127 by omega]
  generalize hE : e * 2 ^ (2 - eb) = E at *
  have hf : fr * 2 ^ (63 - fb) < 2 ^ 63 := by
    have : fr * 2 ^ (63 - fb) < 2 ^ fb * 2 ^ (63 - fb) := Nat.mul_lt_mul_of_pos_right hfr2 (pow_pos _)
    rw [← Nat.pow_add, show fb + (63 - fb) = 63 by omega] at this
    exact this
  have hF : (2 ^ 63 + fr * 2 ^ (63 - fb)) * 2 ^ 64 - 2 ^ 127 = fr * 2 ^ (127 - fb) := by
    rw [Nat.add_mul, Nat.mul_assoc fr, ← Nat.pow_add, ← Nat.pow_add, show 63 + 64 = 127 from rfl, show 63 - fb + 64 = 127 - fb by omega]
    omega
  have htl2 : tl (4 * reg r ones + (E : Int)) ((2 ^ 63 + fr * 2 ^ (63 - fb)) * 2 ^ 64) = (y % 2 ^ m) * 2 ^ (129 - m) := by
    unfold tl
    rw [hF, show ((4 * reg r ones + (E : Int)) % 4).toNat = E by omega]
    exact htl
  have hs4 : (4 * reg r ones + (E : Int)) / 4 = reg r ones := by omega
  refine ⟨?_, hfb61, he3, hfr2⟩
  have hrest := hR.rest hy hy2
  unfold Dec
  refine ⟨by omega, by omega, ?_⟩
  cases ones with
  | true =>
    have hreg : reg r true = ((r - 1 : Nat) : Int) := by unfold reg; rw [if_pos rfl]; omega
    have hye := hrest.1 rfl
    rw [← hm] at hye
    have hEr : r = n - 1 → E = 0 := by
      intro hr
      have : m = 0 := by omega
      have : eb = 0 := by omega
      subst this
      rw [← hE, he, Nat.pow_zero, Nat.mod_one, Nat.zero_mul]
    refine ⟨by rw [hreg]; omega, ?_, ?_⟩
    · rw [hreg]
      by_cases hr : r = n - 1
      · rw [hEr hr]; omega
      · omega
    · rw [str_pos (hs4.trans hreg), htl2]
      have p1 := pow_le (show n - 1 - r ≤ n - 1 by omega)
      have e1 : 2 ^ 130 * 2 ^ (69 - (r - 1)) = 2 ^ (n - 1 - r) * 2 ^ (201 - n) := by rw [← Nat.pow_add, ← Nat.pow_add]; exact congrArg (2 ^ ·) (by omega)
      have e3 : 2 ^ (n - 1) * 2 ^ (201 - n) = 2 ^ 200 := (unit_eq hn).1
      have hmul : (y + 2 ^ (n - 1 - r)) * 2 ^ (201 - n) = (2 ^ (n - 1) + y % 2 ^ m) * 2 ^ (201 - n) := congrArg (· * 2 ^ (201 - n)) (by omega)
      rw [Nat.add_mul, Nat.add_mul, e3, ← e1] at hmul
      have e2 : y % 2 ^ m * 2 ^ (129 - m) * 2 ^ (69 - (r - 1)) = y % 2 ^ m * 2 ^ (201 - n) := by
        by_cases hr : r = n - 1
        · have : m = 0 := by omega
          subst this
          simp only [Nat.pow_zero, Nat.mod_one, Nat.zero_mul]
        · rw [Nat.mul_assoc, ← Nat.pow_add]; exact congrArg (fun z => y % 2 ^ m * 2 ^ z) (by omega)
      rw [e2]
      have := pos_room (show r - 1 ≤ 69 by omega)
      omega
  | false =>
    obtain ⟨hrl, hye⟩ := hrest.2 rfl
    rw [← hm] at hye
    have hreg : reg r false = -(r : Int) := rfl
    refine ⟨by rw [hreg]; omega, by rw [hreg]; omega, ?_⟩
    rw [str_neg (hs4.trans hreg) h1, htl2]
    have e1 : 2 ^ 129 * 2 ^ (70 - r) = 2 ^ m * 2 ^ (201 - n) := by rw [← Nat.pow_add, ← Nat.pow_add]; exact congrArg (2 ^ ·) (by omega)
    have e2 : y % 2 ^ m * 2 ^ (129 - m) * 2 ^ (70 - r) = y % 2 ^ m * 2 ^ (201 - n) := by
      rw [Nat.mul_assoc, ← Nat.pow_add]; exact congrArg (fun z => y % 2 ^ m * 2 ^ z) (by omega)
    rw [e1, e2, ← Nat.add_mul, ← hye]
end Go.Proofs.Ytnlbfomlfhigcaa.M
