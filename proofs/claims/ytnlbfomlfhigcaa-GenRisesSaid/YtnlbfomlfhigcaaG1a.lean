/- Walks and plain laws that the claim stands on: each theorem named calls says that a call of a function returns what its f computes; the others are plain laws of these f. -/
import Derived.Test.YtnlbfomlfhigcaaG0123456a
import Derived.Test.YtnlbfomlfhigcaaG01234a
import Derived.Test.YtnlbfomlfhigcaaG0123a
import Derived.Test.YtnlbfomlfhigcaaG01235a
import Derived.Test.YtnlbfomlfhigcaaG015a
import Derived.Test.YtnlbfomlfhigcaaG01a
import Derived.Test.YtnlbfomlfhigcaaG01b
namespace Go.Proofs.Ytnlbfomlfhigcaa.Q
open Go.RowKit Go.Proofs.YtnlbfomlfhigcaaW.PrintWords Go.Proofs.YtnlbfomlfhigcaaW.PrintLast Go.Proofs.YtnlbfomlfhigcaaW.PrintMore
attribute [local go_sem] max2_int min2_int max_two min_two max_three min_three max_four min_four
set_option linter.unusedVariables false
set_option linter.unusedSimpArgs false

def vernierlaw14_GenRises.j0 : Nat → Int → Int → Int → Int → Bool → Int → Option Int → Int → Option Int → Bool → Option (Bool)
 | 0, _, _, _, _, _, _, _, _, _, _ => none
 | k + 1, x0, x1, x2, x3, x9, x12, x13, x14, x15, x42 => if x42 = true then (if x9 = true then (if x13.isNone = true then (some false) else (if x15.isNone = true then (some false) else (if x12 = 0 then (some (x14 == 0)) else (some false)))) else (some false)) else ((vernierref08_Cmp.f k x0 x2 x3).bind fun t582 => ((vernierref08_Cmp.f k x1 x12 x14).bind fun t583 => (if x9 = true then (if x13.isNone = true then (if x15.isNone = true then (if t582 > 0 then (if t582 < 0 then (some true) else (some (decide (t583 ≥ 0)))) else (if t583 ≤ 0 then (if t582 < 0 then (some true) else (some (decide (t583 ≥ 0)))) else (some false))) else (some false)) else (some false)) else (some false))))
def vernierlaw14_GenRises.f (k : Nat) (a0 : Int) (a1 : Int) (a2 : Int) (a3 : Int) : Option (Bool) := (vernierlaw14_up.f k).bind fun t573 => ((vernierref05_Is.f a0).bind fun t574 => ((vernierref05_Is.f a1).bind fun t575 => ((gen_Convert.f k a0 a1 a2).bind fun bt576 => ((gen_Convert.f k a0 a1 a3).bind fun bt578 => (if t574 = true then (vernierlaw14_GenRises.j0 k a0 a1 a2 a3 t573 bt576.1 bt576.2 bt578.1 bt578.2 (!t575)) else (vernierlaw14_GenRises.j0 k a0 a1 a2 a3 t573 bt576.1 bt576.2 bt578.1 bt578.2 true))))))
theorem vernierlaw14_GenRises.mono_l : ∀ k, (∀ y0 y1 y2 y3 y4 y5 y6 y7 y8 y9, LeO (vernierlaw14_GenRises.j0 k y0 y1 y2 y3 y4 y5 y6 y7 y8 y9) (vernierlaw14_GenRises.j0 (k + 1) y0 y1 y2 y3 y4 y5 y6 y7 y8 y9))
 | 0 => fun _ _ _ _ _ _ _ _ _ _ r h => by simp [vernierlaw14_GenRises.j0] at h
 | k + 1 => by
  have ih0 := vernierlaw14_GenRises.mono_l k
  ·intro y0 y1 y2 y3 y4 y5 y6 y7 y8 y9
   unfold vernierlaw14_GenRises.j0
   repeat' first
   | (with_reducible exact ih0 _ _ _ _ _ _ _ _ _ _)
   | (with_reducible exact gen_Convert.mono _ _ _ _)
   | (with_reducible exact vernierlaw14_up.mono _)
   | (with_reducible exact vernierref08_Cmp.mono _ _ _ _)
   | (with_reducible exact LeO.refl _)
   | (with_reducible exact LeO.none _)
   | (with_reducible refine LeO.ite ?_ ?_)
   | (with_reducible refine LeO.bind ?_ (fun _ => ?_))
   | exact ih0 _ _ _ _ _ _ _ _ _ _
   | exact gen_Convert.mono _ _ _ _
   | exact vernierlaw14_up.mono _
   | exact vernierref08_Cmp.mono _ _ _ _
   | exact LeO.none _
   | refine LeO.ite ?_ ?_
   | refine LeO.bind ?_ (fun _ => ?_)
theorem vernierlaw14_GenRises.mono : ∀ a0 a1 a2 a3 k, LeO (vernierlaw14_GenRises.f k a0 a1 a2 a3) (vernierlaw14_GenRises.f (k + 1) a0 a1 a2 a3) := by
 intro a0 a1 a2 a3 k
 have ih0 := vernierlaw14_GenRises.mono_l k
 unfold vernierlaw14_GenRises.f
 repeat' first
   | (with_reducible exact ih0 _ _ _ _ _ _ _ _ _ _)
   | (with_reducible exact gen_Convert.mono _ _ _ _)
   | (with_reducible exact vernierlaw14_up.mono _)
   | (with_reducible exact vernierref08_Cmp.mono _ _ _ _)
   | (with_reducible exact LeO.refl _)
   | (with_reducible exact LeO.none _)
   | (with_reducible refine LeO.ite ?_ ?_)
   | (with_reducible refine LeO.bind ?_ (fun _ => ?_))
   | exact ih0 _ _ _ _ _ _ _ _ _ _
   | exact gen_Convert.mono _ _ _ _
   | exact vernierlaw14_up.mono _
   | exact vernierref08_Cmp.mono _ _ _ _
   | exact LeO.none _
   | refine LeO.ite ?_ ?_
   | refine LeO.bind ?_ (fun _ => ?_)
set_option maxHeartbeats 8000000 in
set_option maxRecDepth 100000 in
theorem vernierlaw14_GenRises.calls (k : Nat) (a0 : Int) (a1 : Int) (a2 : Int) (a3 : Int) (r : Bool) (w : World) (h : vernierlaw14_GenRises.f k a0 a1 a2 a3 = some r) :
  Calls Try.prog 8 #[.int .i64 a0, .int .i64 a1, .int .u64 a2, .int .u64 a3] w fun e w' => e = .returned (.bool r) ∧ Below w.heap.size w w' := by
 have hu43 := Try.underlying43
 have hu82 := Try.underlying82
 have HB := Aside0.mk (Below.refl w.heap.size w)
 have H := h
 clear h
 unfold vernierlaw14_GenRises.f at H
 replace H := Option.bind_eq_some_iff.mp H
 obtain ⟨t573, A50, H⟩ := H
 try dsimp only at H
 have A5 := Aside0.mk A50
 clear A50
 replace H := Option.bind_eq_some_iff.mp H
 obtain ⟨t574, A60, H⟩ := H
 try dsimp only at H
 have A6 := Aside0.mk A60
 clear A60
 replace H := Option.bind_eq_some_iff.mp H
 obtain ⟨t575, A70, H⟩ := H
 try dsimp only at H
 have A7 := Aside0.mk A70
 clear A70
 replace H := Option.bind_eq_some_iff.mp H
 obtain ⟨⟨t576, t577⟩, A80, H⟩ := H
 try dsimp only at H
 have A8 := Aside0.mk A80
 clear A80
 replace H := Option.bind_eq_some_iff.mp H
 obtain ⟨⟨t578, t579⟩, A90, H⟩ := H
 try dsimp only at H
 have A9 := Aside0.mk A90
 clear A90
 have HC10 := Aside0.mk H
 clear H
 go_enter Try.func8, Try.ntmps8
 go_upto_region 6 with (first | ((with_reducible refine gate_callee (f := 35) rfl ?_); refine goA (some 18) Try.func35 (vernierlaw14_up.calls k  t573 _ A5.out) ?_; intro w11 hb; replace HB := hbS hb; clear hb) | ((with_reducible refine gate_callee (f := 48) rfl ?_); refine goesL_ (some 20) rfl rfl Try.func48 (by kernel_rfl) rfl #[.int .i64 a0] rfl (by (try simp only [List.map_toArray, List.map_cons, List.map_nil]); first | done | rfl | (simp only [List.length_drop, List.length_take]; rfl)) ?_; (with_reducible refine (vernierref05_Is.calls a0 t574 _ A6.out).mono ?_); rintro e w' ⟨rfl, ⟨nd, rfl⟩⟩; refine ⟨_, rfl, ?_⟩) | ((with_reducible refine gate_callee (f := 48) rfl ?_); refine goesL_ (some 22) rfl rfl Try.func48 (by kernel_rfl) rfl #[.int .i64 a1] rfl (by (try simp only [List.map_toArray, List.map_cons, List.map_nil]); first | done | rfl | (simp only [List.length_drop, List.length_take]; rfl)) ?_; (with_reducible refine (vernierref05_Is.calls a1 t575 _ A7.out).mono ?_); rintro e w' ⟨rfl, ⟨nd, rfl⟩⟩; refine ⟨_, rfl, ?_⟩) | ((with_reducible refine gate_callee (f := 45) rfl ?_); refine goA (some 27) Try.func45 (gen_Convert.calls k a0 a1 a2 t576 t577 _ A8.out) ?_; intro w12 hb; replace HB := hbS hb; clear hb; (try simp only [errW_none, errW_some])) | ((with_reducible refine gate_callee (f := 45) rfl ?_); refine goA (some 34) Try.func45 (gen_Convert.calls k a0 a1 a3 t578 t579 _ A9.out) ?_; intro w13 hb; replace HB := hbS hb; clear hb; (try simp only [errW_none, errW_some])))
 (try simp only [Act.put, List.setIfInBounds_toArray, List.set_cons_zero, List.set_cons_succ])
 go_cut [42] (fun v42 wc => ∃ (kq : Nat) (x42_9 : Bool), v42 = .bool x42_9 ∧ Aside0 (vernierlaw14_GenRises.j0 kq a0 a1 a2 a3 t573 t576 t577 t578 t579 x42_9 = some r) ∧ Aside0 (kq ≤ k) ∧ Aside0 (Below w.heap.size w wc))
 case first =>
  have H := HC10.out
  clear HC10
  by_cases c14 : t574 = true
  ·subst c14
   rw [if_pos rfl] at H
   have H' := Aside0.mk H
   clear H
   go_wp2
   go_meet
   case rel => exact ⟨_, (!t575), okT, H', leT, ⟨hbT⟩⟩
  ·replace c14 := Bool.eq_false_iff.mpr c14
   subst c14
   rw [if_neg (show ¬ (false = true) by decide)] at H
   have H' := Aside0.mk H
   clear H
   go_wp2
   go_meet
   case rel => exact ⟨_, (true), okT, H', leT, ⟨hbT⟩⟩
 case rest =>
  clear HC10
  obtain ⟨kq, x42_9, rfl, HA, HJ9, HB⟩ := hcut
  cases kq with
  | zero => exact absurd HA.out (by simp [vernierlaw14_GenRises.j0])
  | succ kj9 =>
   have H := HA.out
   clear HA
   simp only [vernierlaw14_GenRises.j0] at H
   by_cases c15 : x42_9 = true
   ·subst c15
    rw [if_pos rfl] at H
    by_cases c16 : t573 = true
    ·subst c16
     rw [if_pos rfl] at H
     rcases t577 with _ | q580
     ·rw [if_pos (show (none : Option Int).isNone = true by rfl)] at H
      try simp only [errW_none, errW_some]
      obtain rfl := Option.some.inj H
      go_wp2
      go_ret
      exact ⟨reT, hbT⟩
     ·rw [if_neg (show ¬ (some q580).isNone = true by simp)] at H
      try simp only [errW_none, errW_some]
      rcases t579 with _ | q581
      ·rw [if_pos (show (none : Option Int).isNone = true by rfl)] at H
       try simp only [errW_none, errW_some]
       obtain rfl := Option.some.inj H
       go_wp2
       go_ret
       exact ⟨reT, hbT⟩
      ·rw [if_neg (show ¬ (some q581).isNone = true by simp)] at H
       try simp only [errW_none, errW_some]
       by_cases c17 : t576 = 0
       ·rw [if_pos c17] at H
        obtain ⟨c17b0, c17b1⟩ := eqY c17
        clear c17
        obtain rfl := Option.some.inj H
        go_wp2
        go_ret
        exact ⟨reT, hbT⟩
       ·rw [if_neg c17] at H
        obtain ⟨c17b0, c17b1⟩ := eqN c17
        obtain rfl := Option.some.inj H
        go_wp2
        go_ret
        exact ⟨reT, hbT⟩
    ·replace c16 := Bool.eq_false_iff.mpr c16
     subst c16
     rw [if_neg (show ¬ (false = true) by decide)] at H
     obtain rfl := Option.some.inj H
     go_wp2
     go_ret
     exact ⟨reT, hbT⟩
   ·replace c15 := Bool.eq_false_iff.mpr c15
    subst c15
    rw [if_neg (show ¬ (false = true) by decide)] at H
    replace H := Option.bind_eq_some_iff.mp H
    obtain ⟨t582, A180, H⟩ := H
    try dsimp only at H
    have A18 := Aside0.mk A180
    clear A180
    replace H := Option.bind_eq_some_iff.mp H
    obtain ⟨t583, A190, H⟩ := H
    try dsimp only at H
    have A19 := Aside0.mk A190
    clear A190
    by_cases c20 : t573 = true
    ·subst c20
     rw [if_pos rfl] at H
     rcases t577 with _ | q584
     ·rw [if_pos (show (none : Option Int).isNone = true by rfl)] at H
      try simp only [errW_none, errW_some]
      rcases t579 with _ | q585
      ·rw [if_pos (show (none : Option Int).isNone = true by rfl)] at H
       try simp only [errW_none, errW_some]
       by_cases c21 : t582 > 0
       ·rw [if_pos c21] at H
        have c21b0 : decide (0 < t582) = true := decide_eq_true c21
        clear c21
        by_cases c22 : t582 < 0
        ·rw [if_pos c22] at H
         have c22b0 : decide (t582 < 0) = true := decide_eq_true c22
         clear c22
         obtain rfl := Option.some.inj H
         go_wp2_with (first | ((with_reducible refine gate_callee (f := 50) rfl ?_); refine goA (some 63) Try.func50 (vernierref08_Cmp.calls kj9 a0 a2 a3 t582 _ A18.out) ?_; intro w23 hb; replace HB := hbS hb; clear hb) | ((with_reducible refine gate_callee (f := 50) rfl ?_); refine goA (some 67) Try.func50 (vernierref08_Cmp.calls kj9 a1 t576 t578 t583 _ A19.out) ?_; intro w24 hb; replace HB := hbS hb; clear hb))
         go_ret
         exact ⟨reT, hbT⟩
        ·rw [if_neg c22] at H
         have c22b0 : decide (t582 < 0) = false := decide_eq_false c22
         clear c22
         obtain rfl := Option.some.inj H
         go_wp2_with (first | ((with_reducible refine gate_callee (f := 50) rfl ?_); refine goA (some 63) Try.func50 (vernierref08_Cmp.calls kj9 a0 a2 a3 t582 _ A18.out) ?_; intro w25 hb; replace HB := hbS hb; clear hb) | ((with_reducible refine gate_callee (f := 50) rfl ?_); refine goA (some 67) Try.func50 (vernierref08_Cmp.calls kj9 a1 t576 t578 t583 _ A19.out) ?_; intro w26 hb; replace HB := hbS hb; clear hb))
         go_ret
         exact ⟨reT, hbT⟩
       ·rw [if_neg c21] at H
        have c21b0 : decide (0 < t582) = false := decide_eq_false c21
        clear c21
        by_cases c27 : t583 ≤ 0
        ·rw [if_pos c27] at H
         have c27b0 : decide (t583 ≤ 0) = true := decide_eq_true c27
         clear c27
         by_cases c28 : t582 < 0
         ·rw [if_pos c28] at H
          have c28b0 : decide (t582 < 0) = true := decide_eq_true c28
          clear c28
          obtain rfl := Option.some.inj H
          go_wp2_with (first | ((with_reducible refine gate_callee (f := 50) rfl ?_); refine goA (some 63) Try.func50 (vernierref08_Cmp.calls kj9 a0 a2 a3 t582 _ A18.out) ?_; intro w29 hb; replace HB := hbS hb; clear hb) | ((with_reducible refine gate_callee (f := 50) rfl ?_); refine goA (some 67) Try.func50 (vernierref08_Cmp.calls kj9 a1 t576 t578 t583 _ A19.out) ?_; intro w30 hb; replace HB := hbS hb; clear hb))
          go_ret
          exact ⟨reT, hbT⟩
         ·rw [if_neg c28] at H
          have c28b0 : decide (t582 < 0) = false := decide_eq_false c28
          clear c28
          obtain rfl := Option.some.inj H
          go_wp2_with (first | ((with_reducible refine gate_callee (f := 50) rfl ?_); refine goA (some 63) Try.func50 (vernierref08_Cmp.calls kj9 a0 a2 a3 t582 _ A18.out) ?_; intro w31 hb; replace HB := hbS hb; clear hb) | ((with_reducible refine gate_callee (f := 50) rfl ?_); refine goA (some 67) Try.func50 (vernierref08_Cmp.calls kj9 a1 t576 t578 t583 _ A19.out) ?_; intro w32 hb; replace HB := hbS hb; clear hb))
          go_ret
          exact ⟨reT, hbT⟩
        ·rw [if_neg c27] at H
         have c27b0 : decide (t583 ≤ 0) = false := decide_eq_false c27
         clear c27
         obtain rfl := Option.some.inj H
         go_wp2_with (first | ((with_reducible refine gate_callee (f := 50) rfl ?_); refine goA (some 63) Try.func50 (vernierref08_Cmp.calls kj9 a0 a2 a3 t582 _ A18.out) ?_; intro w33 hb; replace HB := hbS hb; clear hb) | ((with_reducible refine gate_callee (f := 50) rfl ?_); refine goA (some 67) Try.func50 (vernierref08_Cmp.calls kj9 a1 t576 t578 t583 _ A19.out) ?_; intro w34 hb; replace HB := hbS hb; clear hb))
         go_ret
         exact ⟨reT, hbT⟩
      ·rw [if_neg (show ¬ (some q585).isNone = true by simp)] at H
       try simp only [errW_none, errW_some]
       obtain rfl := Option.some.inj H
       go_wp2_with (first | ((with_reducible refine gate_callee (f := 50) rfl ?_); refine goA (some 63) Try.func50 (vernierref08_Cmp.calls kj9 a0 a2 a3 t582 _ A18.out) ?_; intro w35 hb; replace HB := hbS hb; clear hb) | ((with_reducible refine gate_callee (f := 50) rfl ?_); refine goA (some 67) Try.func50 (vernierref08_Cmp.calls kj9 a1 t576 t578 t583 _ A19.out) ?_; intro w36 hb; replace HB := hbS hb; clear hb))
       go_ret
       exact ⟨reT, hbT⟩
     ·rw [if_neg (show ¬ (some q584).isNone = true by simp)] at H
      try simp only [errW_none, errW_some]
      obtain rfl := Option.some.inj H
      go_wp2_with (first | ((with_reducible refine gate_callee (f := 50) rfl ?_); refine goA (some 63) Try.func50 (vernierref08_Cmp.calls kj9 a0 a2 a3 t582 _ A18.out) ?_; intro w37 hb; replace HB := hbS hb; clear hb) | ((with_reducible refine gate_callee (f := 50) rfl ?_); refine goA (some 67) Try.func50 (vernierref08_Cmp.calls kj9 a1 t576 t578 t583 _ A19.out) ?_; intro w38 hb; replace HB := hbS hb; clear hb))
      go_ret
      exact ⟨reT, hbT⟩
    ·replace c20 := Bool.eq_false_iff.mpr c20
     subst c20
     rw [if_neg (show ¬ (false = true) by decide)] at H
     obtain rfl := Option.some.inj H
     go_wp2_with (first | ((with_reducible refine gate_callee (f := 50) rfl ?_); refine goA (some 63) Try.func50 (vernierref08_Cmp.calls kj9 a0 a2 a3 t582 _ A18.out) ?_; intro w39 hb; replace HB := hbS hb; clear hb) | ((with_reducible refine gate_callee (f := 50) rfl ?_); refine goA (some 67) Try.func50 (vernierref08_Cmp.calls kj9 a1 t576 t578 t583 _ A19.out) ?_; intro w40 hb; replace HB := hbS hb; clear hb))
     go_ret
     exact ⟨reT, hbT⟩

/-- THE ONE PURE STATEMENT of vernierlaw14_GenRises: yours. -/
def vernierlaw14_GenRises.Pure : Prop := ∀ (a0 : Int) (a1 : Int) (a2 : Int) (a3 : Int), (Lit.int .i64 a0).wf = true → (Lit.int .i64 a1).wf = true → (Lit.int .u64 a2).wf = true → (Lit.int .u64 a3).wf = true → ∃ k, vernierlaw14_GenRises.f k a0 a1 a2 a3 = some true
theorem vernierlaw14_GenRises.walk (P : vernierlaw14_GenRises.Pure) (a0 : Int) (a1 : Int) (a2 : Int) (a3 : Int) (w : World) (w0 : (Lit.int .i64 a0).wf = true) (w1 : (Lit.int .i64 a1).wf = true) (w2 : (Lit.int .u64 a2).wf = true) (w3 : (Lit.int .u64 a3).wf = true) :
  Calls Try.prog 8 #[.int .i64 a0, .int .i64 a1, .int .u64 a2, .int .u64 a3] w fun e w' => e = .returned (.bool true) ∧ Below w.heap.size w w' := by
 obtain ⟨k, h⟩ := P a0 a1 a2 a3 w0 w1 w2 w3
 refine (vernierlaw14_GenRises.calls k a0 a1 a2 a3 true w h).mono ?_
 rintro e w' ⟨rfl, hd⟩
 exact ⟨rfl, hd⟩

end Go.Proofs.Ytnlbfomlfhigcaa.Q
namespace Go.Proofs.Ytnlbfomlfhigcaa.Pure
open Go.RowKit Go.Proofs.Ytnlbfomlfhigcaa.Q Go.Proofs.Ytnlbfomlfhigcaa.M Go.Proofs.YtnlbfomlfhigcaaW.PrintWords Go.Proofs.YtnlbfomlfhigcaaW.PrintLast Go.Proofs.YtnlbfomlfhigcaaW.PrintMore

theorem rises_u64 {a : Int} (h : (Lit.int .u64 a).wf = true) : ∃ x : Nat, a = (x : Int) ∧ x < 2 ^ 64 := by
  simp [Lit.wf, IntKind.min, IntKind.max, IntKind.signed, IntKind.bits] at h
  exact ⟨a.toNat, by omega, by omega⟩
/-- What a folded pattern becomes, with its place in the order. -/
def Turns (n m y q : Nat) : Prop :=
  q < 2 ^ m ∧ ((y = 0 ∧ q = 0) ∨ (y = 2 ^ (n - 1) ∧ q = 2 ^ (m - 1)) ∨ (knd n y = 1 ∧ ∃ s f, Dec n (mag n y) s f ∧ q = sg m (sgn n y) (rpos m s (f * 2 ^ 64) false)))
theorem turns_of {n m p : Nat} (hn : Wd n) (hm : Wd m) (hp : p < 2 ^ 64) : ∃ q : Nat, (∀ k, gen_Convert.f (k + 80) (n : Int) (m : Int) (p : Int) = some ((q : Int), none)) ∧ Turns n m (p % 2 ^ n) q := by
  obtain ⟨q, hq, h⟩ := convert_yes hn hm hp
  refine ⟨q, hq, ?_, h⟩
  have e := two_half hm
  have hp2 := pow_pos (m - 1)
  rcases h with ⟨_, h⟩ | ⟨_, h⟩ | ⟨_, s, f, hd, h⟩
  · omega
  · omega
  · have := rpos_bd hm s false hd.F.2
    have := sg_lt hm (sgn n (p % 2 ^ n)) this.1 (by omega)
    omega
/-- The rank of a real with its sign. -/
theorem rk_sg {n : Nat} (hn : Wd n) (neg : Bool) {p : Nat} (h1 : 1 ≤ p) (h2 : p < 2 ^ (n - 1)) : rk n (sg n neg p) = if neg then -(p : Int) else (p : Int) := by
  have e := two_half hn
  unfold rk sg
  cases neg with
  | true => rw [if_pos rfl, if_pos rfl, if_neg (by omega)]; omega
  | false => simp only [Bool.false_eq_true, if_false]; rw [if_pos h2]
theorem turns_mono {n m y q y' q' : Nat} (hn : Wd n) (hm : Wd m) (hy : y < 2 ^ n) (hy' : y' < 2 ^ n) (h : Turns n m y q) (h' : Turns n m y' q') (hle : rk n y ≤ rk n y') : rk m q ≤ rk m q' := by
  have en := two_half hn
  have em := two_half hm
  have pn := pow_pos (n - 1)
  have pm := pow_pos (m - 1)
  obtain ⟨hq, h⟩ := h
  obtain ⟨hq', h'⟩ := h'
  have nar : rk m (2 ^ (m - 1)) = -((2 ^ (m - 1) : Nat) : Int) := by unfold rk; rw [if_neg (by omega)]; omega
  have narn : rk n (2 ^ (n - 1)) = -((2 ^ (n - 1) : Nat) : Int) := by unfold rk; rw [if_neg (by omega)]; omega
  have low : ∀ z : Nat, -((2 ^ (m - 1) : Nat) : Int) ≤ rk m z := by intro z; unfold rk; split <;> omega
  have z0 : rk n 0 = 0 := by unfold rk; rw [if_pos (by omega)]; rfl
  have z0m : rk m 0 = 0 := by unfold rk; rw [if_pos (by omega)]; rfl
  -- the real ones, by their sign and size
  have real : ∀ y, y < 2 ^ n → knd n y = 1 → rk n y = if sgn n y then -(mag n y : Int) else (mag n y : Int) := by
    intro y hy hk
    have hb := mag_bd hn hy hk
    have := rk_sg hn (sgn n y) hb.1 hb.2
    rw [sg_mag hy] at this
    exact this
  rcases h' with ⟨a, b⟩ | ⟨a, b⟩ | ⟨a, s', f', hd', b⟩
  · -- up to zero
    subst b
    rw [z0m]
    rw [a, z0] at hle
    rcases h with ⟨c, d⟩ | ⟨c, d⟩ | ⟨c, s, f, hd, d⟩
    · rw [d, z0m]; exact Int.le_refl 0
    · rw [d, nar]; omega
    · have r := rpos_bd hm s false hd.F.2
      have hb := mag_bd hn hy c
      rw [d, rk_sg hm _ r.1 (by omega)]
      rw [real y hy c] at hle
      by_cases e : sgn n y = true
      · rw [if_pos e]; omega
      · rw [if_neg e] at hle; omega
  · -- NaR is the least
    rw [b, nar]
    rw [a, narn] at hle
    rcases h with ⟨c, d⟩ | ⟨c, d⟩ | ⟨c, s, f, hd, d⟩
    · rw [c, z0] at hle; omega
    · rw [d, nar]; exact Int.le_refl _
    · have hb := mag_bd hn hy c
      rw [real y hy c] at hle
      by_cases e : sgn n y = true
      · rw [if_pos e] at hle; omega
      · rw [if_neg e] at hle; omega
  · have r' := rpos_bd hm s' false hd'.F.2
    have hb' := mag_bd hn hy' a
    rw [b, rk_sg hm _ r'.1 (by omega)]
    rw [real y' hy' a] at hle
    rcases h with ⟨c, d⟩ | ⟨c, d⟩ | ⟨c, s, f, hd, d⟩
    · rw [d, z0m]
      rw [c, z0] at hle
      by_cases e : sgn n y' = true
      · rw [if_pos e] at hle; omega
      · rw [if_neg e]; omega
    · rw [d, nar]
      by_cases e : sgn n y' = true
      · rw [if_pos e]; omega
      · rw [if_neg e]; omega
    · have r := rpos_bd hm s false hd.F.2
      have hb := mag_bd hn hy c
      rw [d, rk_sg hm _ r.1 (by omega)]
      rw [real y hy c] at hle
      have step : ∀ {p p' : Nat} {s s' : Int} {f f' : Nat}, Dec n p s f → Dec n p' s' f' → p ≤ p' → rpos m s (f * 2 ^ 64) false ≤ rpos m s' (f' * 2 ^ 64) false := by
        intro p p' s s' f f' g g' hpp
        refine rpos_mono hm g.F.1 g.F.2 g'.F.1 g'.F.2 ?_
        unfold leq
        rcases g.lt hn g' hpp with h | ⟨h1, h2⟩
        · exact .inl h
        · exact .inr ⟨h1, by omega⟩
      by_cases e : sgn n y = true
      · rw [if_pos e] at hle ⊢
        by_cases e' : sgn n y' = true
        · rw [if_pos e'] at hle ⊢
          have := step hd' hd (by omega)
          omega
        · rw [if_neg e']; omega
      · rw [if_neg e] at hle ⊢
        by_cases e' : sgn n y' = true
        · rw [if_pos e'] at hle; omega
        · rw [if_neg e'] at hle ⊢
          have := step hd hd' (by omega)
          omega
theorem cmpI_cases (x y : Int) : (x < y ∧ cmpI x y = -1) ∨ (x = y ∧ cmpI x y = 0) ∨ (y < x ∧ cmpI x y = 1) := by
  unfold cmpI
  by_cases h : x < y
  · rw [if_pos h]; exact .inl ⟨h, rfl⟩
  · rw [if_neg h]
    by_cases h2 : x > y
    · rw [if_pos h2]; exact .inr (.inr ⟨h2, rfl⟩)
    · rw [if_neg h2]; exact .inr (.inl ⟨by omega, rfl⟩)
theorem GenRises : vernierlaw14_GenRises.Pure := by
  intro a0 a1 a2 a3 _ _ w2 w3
  obtain ⟨p, rfl, hp⟩ := rises_u64 w2
  obtain ⟨p', rfl, hp'⟩ := rises_u64 w3
  refine ⟨200, ?_⟩
  unfold vernierlaw14_GenRises.f
  rw [up_run]
  simp only [Option.bind_some]
  have none_ : ∀ n m : Int, (NoW n ∨ NoW m) → ∀ k, vernierlaw14_GenRises.j0 (k + 1) n m (p : Int) (p' : Int) true 0 (some 2) 0 (some 2) true = some true := by
    intro n m _ k
    rw [vernierlaw14_GenRises.j0]
    rfl
  rcases wd_or a0 with ⟨n, rfl, hn⟩ | hn
  · rcases wd_or a1 with ⟨m, rfl, hm⟩ | hm
    · rw [isw_yes hn, isw_yes hm]
      obtain ⟨q, hq, ht⟩ := turns_of hn hm hp
      obtain ⟨q', hq', ht'⟩ := turns_of hn hm hp'
      rw [hq 120, hq' 120]
      simp only [Option.bind_some, if_true]
      rw [show 200 = 199 + 1 from rfl, vernierlaw14_GenRises.j0, if_neg (by decide), show 199 = 129 + 70 from rfl, rcmp_yes hn, rcmp_yes hm]
      simp only [Option.bind_some, Option.isNone_none, if_true]
      rw [Nat.mod_eq_of_lt ht.1, Nat.mod_eq_of_lt ht'.1]
      have hy := Nat.mod_lt p (pow_pos n)
      have hy' := Nat.mod_lt p' (pow_pos n)
      have m1 := fun h => turns_mono hn hm hy hy' ht ht' h
      have m2 := fun h => turns_mono hn hm hy' hy ht' ht h
      rcases cmpI_cases (rk n (p % 2 ^ n)) (rk n (p' % 2 ^ n)) with ⟨a, b⟩ | ⟨a, b⟩ | ⟨a, b⟩
      · have := m1 (by omega)
        rw [b, if_neg (by decide)]
        rcases cmpI_cases (rk m q) (rk m q') with ⟨c, d⟩ | ⟨c, d⟩ | ⟨c, d⟩
        · rw [d]; rfl
        · rw [d]; rfl
        · omega
      · have h1 := m1 (by omega)
        have h2 := m2 (by omega)
        rw [b, if_neg (by decide)]
        rcases cmpI_cases (rk m q) (rk m q') with ⟨c, d⟩ | ⟨c, d⟩ | ⟨c, d⟩
        · omega
        · rw [d]; rfl
        · omega
      · have := m2 (by omega)
        rw [b, if_pos (by decide)]
        rcases cmpI_cases (rk m q) (rk m q') with ⟨c, d⟩ | ⟨c, d⟩ | ⟨c, d⟩
        · omega
        · rw [d]; rfl
        · rw [d]; rfl
    · rw [convert_no _ (.inr hm), convert_no _ (.inr hm), isw_yes hn, isw_no hm]
      simp only [Option.bind_some, if_true]
      exact none_ _ _ (.inr hm) 199
  · rw [convert_no _ (.inl hn), convert_no _ (.inl hn), isw_no hn]
    obtain ⟨b, hb⟩ : ∃ b, vernierref05_Is.f a1 = some b := by
      rcases wd_or a1 with ⟨m, rfl, hm⟩ | hm
      · exact ⟨_, isw_yes hm⟩
      · exact ⟨_, isw_no hm⟩
    rw [hb]
    simp only [Option.bind_some]
    rw [if_neg (by decide)]
    exact none_ _ _ (.inl hn) 199
end Go.Proofs.Ytnlbfomlfhigcaa.Pure
