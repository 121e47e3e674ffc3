/- Walks and plain laws that the claim stands on: each theorem named calls says that a call of a function returns what its f computes; the others are plain laws of these f. -/
import Derived.Test.YtnlbfomlfhigcaaG0123456a
import Derived.Test.YtnlbfomlfhigcaaG01234a
import Derived.Test.YtnlbfomlfhigcaaG0123a
import Derived.Test.YtnlbfomlfhigcaaG01235a
import Derived.Test.YtnlbfomlfhigcaaG01a
import Derived.Test.YtnlbfomlfhigcaaG01b
namespace Go.Proofs.Ytnlbfomlfhigcaa.Q
open Go.RowKit Go.Proofs.YtnlbfomlfhigcaaW.PrintWords Go.Proofs.YtnlbfomlfhigcaaW.PrintLast Go.Proofs.YtnlbfomlfhigcaaW.PrintMore
attribute [local go_sem] max2_int min2_int max_two min_two max_three min_three max_four min_four
set_option linter.unusedVariables false
set_option linter.unusedSimpArgs false

def vernierlaw14_GenBack.j0 : Nat → Int → Int → Int → Bool → Int → Option Int → Int → Option Int → Bool → Bool → Bool → Option (Bool)
 | 0, _, _, _, _, _, _, _, _, _, _, _ => none
 | k + 1, x0, x1, x2, x7, x8, x9, x10, x11, x12, x13, x43 => if x43 = true then (if x7 = true then (if x9.isNone = true then (if x12 = true then (some (true == x13)) else (some (true == false))) else (if x12 = true then (some (false == x13)) else (some (false == false)))) else (some false)) else (if x7 = true then (if x9.isNone = true then (if x11.isNone = true then ((vernierref06_Fold.f k x0 x2).bind fun t561 => (if x10 = t561 then (if 0 ≤ (wrap64 (x1 - x0)) then ((vernierref06_Fold.f k x1 (shl .u64 x2 (wrap64 (x1 - x0)))).bind fun t562 => (some (x8 == t562))) else (none)) else (some false))) else (some false)) else (some false)) else (some false))
def vernierlaw14_GenBack.f (k : Nat) (a0 : Int) (a1 : Int) (a2 : Int) : Option (Bool) := (vernierlaw14_up.f k).bind fun t551 => ((gen_Convert.f k a0 a1 a2).bind fun bt552 => ((gen_Convert.f k a1 a0 bt552.1).bind fun bt554 => ((vernierref05_Is.f a0).bind fun t556 => ((vernierref05_Is.f a1).bind fun t557 => (if t556 = true then (if t557 = true then (vernierlaw14_GenBack.j0 k a0 a1 a2 t551 bt552.1 bt552.2 bt554.1 bt554.2 t556 t557 (decide (a1 < a0))) else (vernierlaw14_GenBack.j0 k a0 a1 a2 t551 bt552.1 bt552.2 bt554.1 bt554.2 t556 t557 true)) else (vernierlaw14_GenBack.j0 k a0 a1 a2 t551 bt552.1 bt552.2 bt554.1 bt554.2 t556 t557 true))))))
theorem vernierlaw14_GenBack.mono_l : ∀ k, (∀ y0 y1 y2 y3 y4 y5 y6 y7 y8 y9 y10, LeO (vernierlaw14_GenBack.j0 k y0 y1 y2 y3 y4 y5 y6 y7 y8 y9 y10) (vernierlaw14_GenBack.j0 (k + 1) y0 y1 y2 y3 y4 y5 y6 y7 y8 y9 y10))
 | 0 => fun _ _ _ _ _ _ _ _ _ _ _ r h => by simp [vernierlaw14_GenBack.j0] at h
 | k + 1 => by
  have ih0 := vernierlaw14_GenBack.mono_l k
  ·intro y0 y1 y2 y3 y4 y5 y6 y7 y8 y9 y10
   unfold vernierlaw14_GenBack.j0
   repeat' first
   | (with_reducible exact ih0 _ _ _ _ _ _ _ _ _ _ _)
   | (with_reducible exact gen_Convert.mono _ _ _ _)
   | (with_reducible exact vernierlaw14_up.mono _)
   | (with_reducible exact vernierref06_Fold.mono _ _ _)
   | (with_reducible exact LeO.refl _)
   | (with_reducible exact LeO.none _)
   | (with_reducible refine LeO.ite ?_ ?_)
   | (with_reducible refine LeO.bind ?_ (fun _ => ?_))
   | exact ih0 _ _ _ _ _ _ _ _ _ _ _
   | exact gen_Convert.mono _ _ _ _
   | exact vernierlaw14_up.mono _
   | exact vernierref06_Fold.mono _ _ _
   | exact LeO.none _
   | refine LeO.ite ?_ ?_
   | refine LeO.bind ?_ (fun _ => ?_)
theorem vernierlaw14_GenBack.mono : ∀ a0 a1 a2 k, LeO (vernierlaw14_GenBack.f k a0 a1 a2) (vernierlaw14_GenBack.f (k + 1) a0 a1 a2) := by
 intro a0 a1 a2 k
 have ih0 := vernierlaw14_GenBack.mono_l k
 unfold vernierlaw14_GenBack.f
 repeat' first
   | (with_reducible exact ih0 _ _ _ _ _ _ _ _ _ _ _)
   | (with_reducible exact gen_Convert.mono _ _ _ _)
   | (with_reducible exact vernierlaw14_up.mono _)
   | (with_reducible exact vernierref06_Fold.mono _ _ _)
   | (with_reducible exact LeO.refl _)
   | (with_reducible exact LeO.none _)
   | (with_reducible refine LeO.ite ?_ ?_)
   | (with_reducible refine LeO.bind ?_ (fun _ => ?_))
   | exact ih0 _ _ _ _ _ _ _ _ _ _ _
   | exact gen_Convert.mono _ _ _ _
   | exact vernierlaw14_up.mono _
   | exact vernierref06_Fold.mono _ _ _
   | exact LeO.none _
   | refine LeO.ite ?_ ?_
   | refine LeO.bind ?_ (fun _ => ?_)
set_option maxHeartbeats 8000000 in
set_option maxRecDepth 100000 in
theorem vernierlaw14_GenBack.calls (k : Nat) (a0 : Int) (a1 : Int) (a2 : Int) (r : Bool) (w : World) (h : vernierlaw14_GenBack.f k a0 a1 a2 = some r) :
  Calls Try.prog 7 #[.int .i64 a0, .int .i64 a1, .int .u64 a2] w fun e w' => e = .returned (.bool r) ∧ Below w.heap.size w w' := by
 have hu43 := Try.underlying43
 have hu82 := Try.underlying82
 have HB := Aside0.mk (Below.refl w.heap.size w)
 have H := h
 clear h
 unfold vernierlaw14_GenBack.f at H
 replace H := Option.bind_eq_some_iff.mp H
 obtain ⟨t551, A40, H⟩ := H
 try dsimp only at H
 have A4 := Aside0.mk A40
 clear A40
 replace H := Option.bind_eq_some_iff.mp H
 obtain ⟨⟨t552, t553⟩, A50, H⟩ := H
 try dsimp only at H
 have A5 := Aside0.mk A50
 clear A50
 replace H := Option.bind_eq_some_iff.mp H
 obtain ⟨⟨t554, t555⟩, A60, H⟩ := H
 try dsimp only at H
 have A6 := Aside0.mk A60
 clear A60
 replace H := Option.bind_eq_some_iff.mp H
 obtain ⟨t556, A70, H⟩ := H
 try dsimp only at H
 have A7 := Aside0.mk A70
 clear A70
 replace H := Option.bind_eq_some_iff.mp H
 obtain ⟨t557, A80, H⟩ := H
 try dsimp only at H
 have A8 := Aside0.mk A80
 clear A80
 have HC9 := Aside0.mk H
 clear H
 go_enter Try.func7, Try.ntmps7
 go_upto_region 6 with (first | ((with_reducible refine gate_callee (f := 35) rfl ?_); refine goA (some 14) Try.func35 (vernierlaw14_up.calls k  t551 _ A4.out) ?_; intro w10 hb; replace HB := hbS hb; clear hb) | ((with_reducible refine gate_callee (f := 45) rfl ?_); refine goA (some 19) Try.func45 (gen_Convert.calls k a0 a1 a2 t552 t553 _ A5.out) ?_; intro w11 hb; replace HB := hbS hb; clear hb; (try simp only [errW_none, errW_some])) | ((with_reducible refine gate_callee (f := 45) rfl ?_); refine goA (some 26) Try.func45 (gen_Convert.calls k a1 a0 t552 t554 t555 _ A6.out) ?_; intro w12 hb; replace HB := hbS hb; clear hb; (try simp only [errW_none, errW_some])) | ((with_reducible refine gate_callee (f := 48) rfl ?_); refine goesL_ (some 30) rfl rfl Try.func48 (by kernel_rfl) rfl #[.int .i64 a0] rfl (by (try simp only [List.map_toArray, List.map_cons, List.map_nil]); first | done | rfl | (simp only [List.length_drop, List.length_take]; rfl)) ?_; (with_reducible refine (vernierref05_Is.calls a0 t556 _ A7.out).mono ?_); rintro e w' ⟨rfl, ⟨nd, rfl⟩⟩; refine ⟨_, rfl, ?_⟩) | ((with_reducible refine gate_callee (f := 48) rfl ?_); refine goesL_ (some 32) rfl rfl Try.func48 (by kernel_rfl) rfl #[.int .i64 a1] rfl (by (try simp only [List.map_toArray, List.map_cons, List.map_nil]); first | done | rfl | (simp only [List.length_drop, List.length_take]; rfl)) ?_; (with_reducible refine (vernierref05_Is.calls a1 t557 _ A8.out).mono ?_); rintro e w' ⟨rfl, ⟨nd, rfl⟩⟩; refine ⟨_, rfl, ?_⟩))
 (try simp only [Act.put, List.setIfInBounds_toArray, List.set_cons_zero, List.set_cons_succ])
 go_cut [43] (fun v43 wc => ∃ (kq : Nat) (x43_8 : Bool), v43 = .bool x43_8 ∧ Aside0 (vernierlaw14_GenBack.j0 kq a0 a1 a2 t551 t552 t553 t554 t555 t556 t557 x43_8 = some r) ∧ Aside0 (kq ≤ k) ∧ Aside0 (Below w.heap.size w wc))
 case first =>
  have H := HC9.out
  clear HC9
  by_cases c13 : t556 = true
  ·subst c13
   rw [if_pos rfl] at H
   by_cases c14 : t557 = true
   ·subst c14
    rw [if_pos rfl] at H
    have H' := Aside0.mk H
    clear H
    go_wp2
    go_meet
    case rel => exact ⟨_, (decide (a1 < a0)), okT, H', leT, ⟨hbT⟩⟩
   ·replace c14 := Bool.eq_false_iff.mpr c14
    subst c14
    rw [if_neg (show ¬ (false = true) by decide)] at H
    have H' := Aside0.mk H
    clear H
    go_wp2
    go_meet
    case rel => exact ⟨_, (true), okT, H', leT, ⟨hbT⟩⟩
  ·replace c13 := Bool.eq_false_iff.mpr c13
   subst c13
   rw [if_neg (show ¬ (false = true) by decide)] at H
   have H' := Aside0.mk H
   clear H
   go_wp2
   go_meet
   case rel => exact ⟨_, (true), okT, H', leT, ⟨hbT⟩⟩
 case rest =>
  clear HC9
  obtain ⟨kq, x43_8, rfl, HA, HJ8, HB⟩ := hcut
  cases kq with
  | zero => exact absurd HA.out (by simp [vernierlaw14_GenBack.j0])
  | succ kj8 =>
   have H := HA.out
   clear HA
   simp only [vernierlaw14_GenBack.j0] at H
   by_cases c15 : x43_8 = true
   ·subst c15
    rw [if_pos rfl] at H
    by_cases c16 : t551 = true
    ·subst c16
     rw [if_pos rfl] at H
     rcases t553 with _ | q558
     ·rw [if_pos (show (none : Option Int).isNone = true by rfl)] at H
      try simp only [errW_none, errW_some]
      by_cases c17 : t556 = true
      ·subst c17
       rw [if_pos rfl] at H
       obtain rfl := Option.some.inj H
       go_wp2
       go_ret
       exact ⟨reT, hbT⟩
      ·replace c17 := Bool.eq_false_iff.mpr c17
       subst c17
       rw [if_neg (show ¬ (false = true) by decide)] at H
       obtain rfl := Option.some.inj H
       go_wp2
       go_ret
       exact ⟨reT, hbT⟩
     ·rw [if_neg (show ¬ (some q558).isNone = true by simp)] at H
      try simp only [errW_none, errW_some]
      by_cases c18 : t556 = true
      ·subst c18
       rw [if_pos rfl] at H
       obtain rfl := Option.some.inj H
       go_wp2
       go_ret
       exact ⟨reT, hbT⟩
      ·replace c18 := Bool.eq_false_iff.mpr c18
       subst c18
       rw [if_neg (show ¬ (false = true) by decide)] at H
       obtain rfl := Option.some.inj H
       go_wp2
       go_ret
       exact ⟨reT, hbT⟩
    ·replace c16 := Bool.eq_false_iff.mpr c16
     subst c16
     rw [if_neg (show ¬ (false = true) by decide)] at H
     obtain rfl := Option.some.inj H
     go_wp2
     go_ret
     exact ⟨reT, hbT⟩
   ·replace c15 := Bool.eq_false_iff.mpr c15
    subst c15
    rw [if_neg (show ¬ (false = true) by decide)] at H
    by_cases c19 : t551 = true
    ·subst c19
     rw [if_pos rfl] at H
     rcases t553 with _ | q559
     ·rw [if_pos (show (none : Option Int).isNone = true by rfl)] at H
      try simp only [errW_none, errW_some]
      rcases t555 with _ | q560
      ·rw [if_pos (show (none : Option Int).isNone = true by rfl)] at H
       try simp only [errW_none, errW_some]
       replace H := Option.bind_eq_some_iff.mp H
       obtain ⟨t561, A200, H⟩ := H
       try dsimp only at H
       have A20 := Aside0.mk A200
       clear A200
       by_cases c21 : t554 = t561
       ·rw [if_pos c21] at H
        obtain ⟨c21b0, c21b1⟩ := eqY c21
        clear c21
        obtain ⟨ji22, hji22⟩ : ∃ j_ : Int, (wrap64 (a1 - a0)) = j_ := ⟨_, rfl⟩
        replace H : (if 0 ≤ (ji22) then ((vernierref06_Fold.f kj8 a1 (shl .u64 a2 (ji22))).bind fun t562 => (some (t552 == t562))) else (none)) = some r := by first | (rw [hji22] at H; exact H) | (simp only [hji22] at H ⊢; exact H)
        (try rw [hji22] at A20)
        have hji22w : (IntKind.i64.wrap (a1 - a0)) = ji22 := (i64_w _).trans hji22
        by_cases c23 : 0 ≤ (ji22)
        ·rw [if_pos c23] at H
         have c23b0 := eq_true c23
         have c23b1 : decide (0 ≤ (ji22)) = true := decide_eq_true c23
         clear c23
         obtain ⟨ji24, hji24⟩ : ∃ j_ : Int, (shl .u64 a2 (ji22)) = j_ := ⟨_, rfl⟩
         replace H : ((vernierref06_Fold.f kj8 a1 (ji24)).bind fun t562 => (some (t552 == t562))) = some r := by first | (rw [hji24] at H; exact H) | (simp only [hji24] at H ⊢; exact H)
         (try rw [hji24] at A20)
         have hji24_ : (IntKind.u64.wrap (a2 * 2 ^ min (ji22).toNat 64)) = ji24 := hji24
         have hji24z : (ji22) ≤ 64 → (IntKind.u64.wrap (a2 * 2 ^ (ji22).toNat)) = ji24 := shl_small hji24
         replace H := Option.bind_eq_some_iff.mp H
         obtain ⟨t562, A250, H⟩ := H
         try dsimp only at H
         have A25 := Aside0.mk A250
         clear A250
         obtain rfl := Option.some.inj H
         go_wp2_with (first | (go_at_call 49; (with_reducible refine (vernierref06_Fold.calls kj8 a0 a2 t561 _ A20.out).mono ?_); rintro e w26 ⟨rfl, hb⟩; replace HB := hbS hb; (try clear hb); (try clear hb2); (try clear hk); (try clear hi)) | (go_at_call 49; (with_reducible refine (vernierref06_Fold.calls kj8 a1 ji24 t562 _ A25.out).mono ?_); rintro e w27 ⟨rfl, hb⟩; replace HB := hbS hb; (try clear hb); (try clear hb2); (try clear hk); (try clear hi)))
         go_ret
         exact ⟨by first | rfl | (simp [errW_none, errW_some] <;> rfl) | (simp only [← hji22, ← hji24]; first | rfl | (simp [errW_none, errW_some] <;> rfl)) | (simp [*, errW_none, errW_some] <;> rfl), hbT⟩
        ·rw [if_neg c23] at H
         exact absurd H (by simp)
       ·rw [if_neg c21] at H
        obtain ⟨c21b0, c21b1⟩ := eqN c21
        obtain rfl := Option.some.inj H
        go_wp2_with (first | (go_at_call 49; (with_reducible refine (vernierref06_Fold.calls kj8 a0 a2 t561 _ A20.out).mono ?_); rintro e w28 ⟨rfl, hb⟩; replace HB := hbS hb; (try clear hb); (try clear hb2); (try clear hk); (try clear hi)))
        go_ret
        exact ⟨reT, hbT⟩
      ·rw [if_neg (show ¬ (some q560).isNone = true by simp)] at H
       try simp only [errW_none, errW_some]
       obtain rfl := Option.some.inj H
       go_wp2
       go_ret
       exact ⟨reT, hbT⟩
     ·rw [if_neg (show ¬ (some q559).isNone = true by simp)] at H
      try simp only [errW_none, errW_some]
      obtain rfl := Option.some.inj H
      go_wp2
      go_ret
      exact ⟨reT, hbT⟩
    ·replace c19 := Bool.eq_false_iff.mpr c19
     subst c19
     rw [if_neg (show ¬ (false = true) by decide)] at H
     obtain rfl := Option.some.inj H
     go_wp2
     go_ret
     exact ⟨reT, hbT⟩

/-- THE ONE PURE STATEMENT of vernierlaw14_GenBack: yours. -/
def vernierlaw14_GenBack.Pure : Prop := ∀ (a0 : Int) (a1 : Int) (a2 : Int), (Lit.int .i64 a0).wf = true → (Lit.int .i64 a1).wf = true → (Lit.int .u64 a2).wf = true → ∃ k, vernierlaw14_GenBack.f k a0 a1 a2 = some true
theorem vernierlaw14_GenBack.walk (P : vernierlaw14_GenBack.Pure) (a0 : Int) (a1 : Int) (a2 : Int) (w : World) (w0 : (Lit.int .i64 a0).wf = true) (w1 : (Lit.int .i64 a1).wf = true) (w2 : (Lit.int .u64 a2).wf = true) :
  Calls Try.prog 7 #[.int .i64 a0, .int .i64 a1, .int .u64 a2] w fun e w' => e = .returned (.bool true) ∧ Below w.heap.size w w' := by
 obtain ⟨k, h⟩ := P a0 a1 a2 w0 w1 w2
 refine (vernierlaw14_GenBack.calls k a0 a1 a2 true w h).mono ?_
 rintro e w' ⟨rfl, hd⟩
 exact ⟨rfl, hd⟩

end Go.Proofs.Ytnlbfomlfhigcaa.Q
namespace Go.Proofs.Ytnlbfomlfhigcaa.Pure
open Go.RowKit Go.Proofs.Ytnlbfomlfhigcaa.Q Go.Proofs.Ytnlbfomlfhigcaa.M Go.Proofs.YtnlbfomlfhigcaaW.PrintWords Go.Proofs.YtnlbfomlfhigcaaW.PrintLast Go.Proofs.YtnlbfomlfhigcaaW.PrintMore

theorem wf_u64 {a : Int} (h : (Lit.int .u64 a).wf = true) : ∃ x : Nat, a = (x : Int) ∧ x < 2 ^ 64 := by
  simp [Lit.wf, IntKind.min, IntKind.max, IntKind.signed, IntKind.bits] at h
  exact ⟨a.toNat, by omega, by omega⟩
theorem wf_i64 {a : Int} (h : (Lit.int .i64 a).wf = true) : -9223372036854775808 ≤ a ∧ a ≤ 9223372036854775807 := by
  simp [Lit.wf, IntKind.min, IntKind.max, IntKind.signed, IntKind.bits] at h
  omega
theorem GenBack : vernierlaw14_GenBack.Pure := by
  intro a0 a1 a2 _ _ w2
  obtain ⟨p, rfl, hp⟩ := wf_u64 w2
  refine ⟨200, ?_⟩
  unfold vernierlaw14_GenBack.f
  rw [up_run]
  simp only [Option.bind_some]
  rcases wd_or a0 with ⟨n, rfl, hn⟩ | hn
  · rcases wd_or a1 with ⟨m, rfl, hm⟩ | hm
    · rw [isw_yes hn, isw_yes hm]
      by_cases c : m < n
      · obtain ⟨q, hq, _⟩ := convert_yes hn hm hp
        rw [hq 120]
        simp only [Option.bind_some]
        obtain ⟨b, hb⟩ : ∃ b, gen_Convert.f (120 + 80) (m : Int) (n : Int) (q : Int) = some b := by
          have hq2 : q < 2 ^ 64 := by
            rename_i hh
            have hbm := hm.bd
            have e := two_half hm
            have h64 : 2 ^ m ≤ 2 ^ 64 := pow_le hbm.2
            have hp2 := pow_pos (m - 1)
            rcases hh with ⟨_, h⟩ | ⟨_, h⟩ | ⟨_, s, f, hd, h⟩
            · omega
            · omega
            · have := rpos_bd hm s false hd.F.2
              have := sg_lt hm (sgn n (p % 2 ^ n)) this.1 (by omega)
              omega
          obtain ⟨r, hr, _⟩ := convert_yes hm hn hq2
          exact ⟨_, hr 120⟩
        rw [show 200 = 120 + 80 from rfl, hb]
        simp only [Option.bind_some, if_true]
        rw [show decide ((m : Int) < (n : Int)) = true by simp; omega, show 120 + 80 = 199 + 1 from rfl, vernierlaw14_GenBack.j0]
        rfl
      · rw [show 200 = 120 + 80 from rfl, convert_widen hn hm (by omega) hp]
        simp only [Option.bind_some]
        rw [convert_back hn hm (by omega)]
        simp only [Option.bind_some, if_true]
        rw [show decide ((m : Int) < (n : Int)) = false by simp; omega, show 120 + 80 = 199 + 1 from rfl, vernierlaw14_GenBack.j0, if_neg (by decide)]
        simp only [Option.isNone_none, if_true]
        rw [show 199 = 133 + 66 from rfl, rfold_yes hn]
        simp only [Option.bind_some, if_true]
        have hbn := hn.bd
        have hbm := hm.bd
        have hw : wrap64 ((m : Int) - (n : Int)) = ((m - n : Nat) : Int) := by unfold wrap64; omega
        rw [hw, if_pos (by omega), shl_nat p (m - n) (by omega), rfold_yes hm]
        simp only [Option.bind_some]
        have e : p * 2 ^ (m - n) % 2 ^ 64 % 2 ^ m = p % 2 ^ n * 2 ^ (m - n) := by
          rw [pow_split (show m ≤ 64 from hbm.2), Nat.mod_mul_right_mod, ← Nat.mul_mod_mul_right, ← Nat.pow_add, show n + (m - n) = m by omega]
        rw [e]
        simp
    · rw [convert_no _ (.inr hm)]
      simp only [Option.bind_some]
      rw [convert_no _ (.inl hm), isw_yes hn, isw_no hm]
      simp only [Option.bind_some, if_true]
      rw [if_neg (by decide), show 200 = 199 + 1 from rfl, vernierlaw14_GenBack.j0]
      rfl
  · rw [convert_no _ (.inl hn)]
    simp only [Option.bind_some]
    rw [convert_no _ (.inr hn), isw_no hn]
    simp only [Option.bind_some]
    obtain ⟨b, hb⟩ : ∃ b, vernierref05_Is.f a1 = some b := by
      rcases wd_or a1 with ⟨m, rfl, hm⟩ | hm
      · exact ⟨_, isw_yes hm⟩
      · exact ⟨_, isw_no hm⟩
    rw [hb]
    simp only [Option.bind_some]
    rw [if_neg (by decide), show 200 = 199 + 1 from rfl, vernierlaw14_GenBack.j0]
    rfl
end Go.Proofs.Ytnlbfomlfhigcaa.Pure
