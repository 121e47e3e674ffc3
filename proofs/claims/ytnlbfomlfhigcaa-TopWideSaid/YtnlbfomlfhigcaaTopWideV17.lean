/- Walks and plain laws that the claim stands on: each theorem named calls says that a call of a function returns what its f computes; the others are plain laws of these f, and the words that the walks use. -/
import Derived.Test.YtnlbfomlfhigcaaTopWideV16
import Derived.Test.YtnlbfomlfhigcaaTopWideV13
namespace Go.Proofs.Ytnlbfomlfhigcaa.M
open Go.RowKit Go.Proofs.YtnlbfomlfhigcaaW.PrintWords Go.Proofs.YtnlbfomlfhigcaaW.PrintLast Go.Proofs.YtnlbfomlfhigcaaW.PrintMore Go.Proofs.Ytnlbfomlfhigcaa.Q
theorem wd8 : Wd 8 := by unfold Wd; omega
theorem wd16 : Wd 16 := by unfold Wd; omega
theorem v8 {A B : Nat} (hA : A = 973) (hB : B = 1025) {y : Nat} {m : Mn} (h : Means 8 y m) {Z : Int} (hZ : m.v (-1000) = some Z) : (((2 ^ A : Nat) : Int) ∣ Z) ∧ Z.natAbs < 2 ^ B := by
  cases m with
  | zero =>
    obtain rfl : 0 = Z := Option.some.inj hZ
    exact ⟨⟨0, by rw [Int.mul_zero]⟩, pow_pos B⟩
  | nar => cases hZ
  | real g s f =>
    obtain ⟨h1, h2, h3, h4⟩ := h.bd
    have hd := h.2.2.noughts wd8
    obtain rfl : vl (-1000) g s (f * 2 ^ 64) = Z := Option.some.inj hZ
    have e : ((8 : Nat) : Int) = 8 := rfl
    rw [e] at h3 h4
    refine ⟨?_, ?_⟩
    · rw [Int.ofNat_dvd_left]
      unfold vl
      rw [sv_abs]
      have e1 : 2 ^ A ∣ 2 ^ (132 - 8) * 2 ^ (s - 127 - -1000).toNat := by
        rw [← Nat.pow_add]
        exact dvd_pow (by omega)
      exact Nat.dvd_trans e1 (Nat.mul_dvd_mul_right hd _)
    · unfold vl
      rw [sv_abs]
      have e1 : f * 2 ^ 64 < 2 ^ 128 := by omega
      have e2 := Nat.mul_lt_mul_of_pos_right e1 (pow_pos (s - 127 - -1000).toNat)
      rw [← Nat.pow_add] at e2
      exact Nat.lt_of_lt_of_le e2 (pow_le (by omega))
theorem conv_sum8 {y y' : Nat} {m m' : Mn} (h : Means 8 y m) (h' : Means 8 y' m') (k : Nat) :
    gen_Convert.f (k + 80) 64 8 ((RZ 64 (-1000) (oadd (m.v (-1000)) (m'.v (-1000))) : Nat) : Int) = some (((RZ 8 (-1000) (oadd (m.v (-1000)) (m'.v (-1000))) : Nat) : Int), none) := by
  cases hv : m.v (-1000) with
  | none => exact conv_nar wd8 _ k
  | some z =>
    cases hv' : m'.v (-1000) with
    | none => exact conv_nar wd8 _ k
    | some z' =>
      obtain ⟨A, hA⟩ : ∃ A : Nat, A = 973 := ⟨_, rfl⟩
      obtain ⟨B, hB⟩ : ∃ B : Nat, B = 1025 := ⟨_, rfl⟩
      obtain ⟨d1, b1⟩ := v8 hA hB h hv
      obtain ⟨d2, b2⟩ := v8 hA hB h' hv'
      have hd : ((2 ^ A : Nat) : Int) ∣ z + z' := Int.dvd_add d1 d2
      rw [Int.ofNat_dvd_left] at hd
      obtain ⟨q, hq⟩ := hd
      have hb : (z + z').natAbs < 2 ^ (B + 1) := by
        rw [Nat.pow_succ]
        generalize 2 ^ B = p at *
        omega
      have hq2 : q < 2 ^ 53 := by
        rw [hq, show 2 ^ (B + 1) = 2 ^ A * 2 ^ 53 from (pow_mul (by omega)).symm] at hb
        exact Nat.lt_of_mul_lt_mul_left hb
      exact conv_exact wd8 (a := A) (b := 53) (h := q) (by rw [hq, Nat.mul_comm]) (by decide) hq2 (by omega) (by omega) k
theorem conv_zero {n : Nat} (hn : Wd n) (u : Int) (k : Nat) : gen_Convert.f (k + 80) 64 (n : Int) ((RZ 64 u (some 0) : Nat) : Int) = some (((RZ n u (some 0) : Nat) : Int), none) := by
  rw [RZ_zero, RZ_zero]
  obtain ⟨q, hq, hc⟩ := convert_yes wd64 hn (p := 0) (by decide)
  have e := hq k
  have hq0 : q = 0 := by
    rcases hc with ⟨_, h⟩ | ⟨h, _⟩ | ⟨h, _⟩
    · exact h
    · exact absurd h (by decide)
    · exact absurd h (by decide)
  rw [hq0] at e
  exact e
theorem Dec.frac {n p : Nat} (hn : n = 8 ∨ n = 16) {s : Int} {f : Nat} (h : Dec n p s f) : ∃ g, f = g * 2 ^ (68 - n) ∧ g < 2 ^ (n - 4) := by
  have hw : Wd n := by unfold Wd; omega
  have hd := h.noughts hw
  obtain ⟨h1, h2, _⟩ := h
  have e : 2 ^ (132 - n) = 2 ^ (68 - n) * 2 ^ 64 := (pow_mul (by omega)).symm
  rw [e] at hd
  obtain ⟨g, hg⟩ := Nat.dvd_of_mul_dvd_mul_right (pow_pos 64) hd
  refine ⟨g, by rw [hg, Nat.mul_comm], ?_⟩
  rw [hg, show (2 : Nat) ^ 64 = 2 ^ (68 - n) * 2 ^ (n - 4) from (pow_mul (by omega)).symm] at h2
  exact Nat.lt_of_mul_lt_mul_left h2
theorem conv_mul {n y y' : Nat} (hn : n = 8 ∨ n = 16) {m m' : Mn} (h : Means n y m) (h' : Means n y' m') (k : Nat) :
    gen_Convert.f (k + 80) 64 (n : Int) ((RZ 64 (-1000) (omul (-1000) m m') : Nat) : Int) = some (((RZ n (-1000) (omul (-1000) m m') : Nat) : Int), none) := by
  have hw : Wd n := by unfold Wd; omega
  have hz := conv_zero hw (-1000) k
  cases m with
  | nar => exact conv_nar hw _ k
  | zero =>
    cases m' with
    | nar => exact conv_nar hw _ k
    | zero => exact hz
    | real n' s' f' => exact hz
  | real g s f =>
    cases m' with
    | nar => exact conv_nar hw _ k
    | zero => exact hz
    | real g' s' f' =>
      obtain ⟨_, _, h3, h4⟩ := h.bd
      obtain ⟨_, _, h3', h4'⟩ := h'.bd
      obtain ⟨x, hx, hx2⟩ := h.2.2.frac hn
      obtain ⟨x', hx', hx2'⟩ := h'.2.2.frac hn
      have hlt : x * x' < 2 ^ (2 * n - 8) := by
        have e := Nat.mul_lt_mul_of_lt_of_le hx2 (Nat.le_of_lt hx2') (pow_pos _)
        rw [← Nat.pow_add, show n - 4 + (n - 4) = 2 * n - 8 by omega] at e
        exact e
      refine conv_exact hw (a := 136 - 2 * n + (s + s' - 126 - -1000).toNat) (b := 2 * n - 8) (h := x * x') ?_ (by omega) hlt (by omega) (by omega) k
      have e : x * 2 ^ (68 - n) * (x' * 2 ^ (68 - n)) = x * x' * 2 ^ (136 - 2 * n) := by
        rw [show 136 - 2 * n = (68 - n) + (68 - n) by omega, Nat.pow_add, Nat.mul_mul_mul_comm]
      rw [sv_abs, hx, hx', e, Nat.pow_add, Nat.mul_assoc]
end Go.Proofs.Ytnlbfomlfhigcaa.M
namespace Go.Proofs.Ytnlbfomlfhigcaa.Pure
open Go.RowKit Go.Proofs.Ytnlbfomlfhigcaa.Q Go.Proofs.Ytnlbfomlfhigcaa.M Go.Proofs.YtnlbfomlfhigcaaW.PrintWords Go.Proofs.YtnlbfomlfhigcaaW.PrintLast Go.Proofs.YtnlbfomlfhigcaaW.PrintMore
theorem u16w_ (n : Int) : IntKind.u16.wrap n = n % 65536 := by simp [IntKind.wrap, IntKind.bits, IntKind.signed]
theorem u8_nat {a : Int} (h : (Lit.int .u8 a).wf = true) : ∃ x : Nat, a = (x : Int) ∧ x < 2 ^ 8 := by
  have h1 : 0 ≤ a ∧ a < 256 := by
    simp [Lit.wf, IntKind.min, IntKind.max, IntKind.signed, IntKind.bits] at h
    omega
  exact ⟨a.toNat, by omega, by omega⟩
theorem u16_nat {a : Int} (h : (Lit.int .u16 a).wf = true) : ∃ x : Nat, a = (x : Int) ∧ x < 2 ^ 16 := by
  have h1 : 0 ≤ a ∧ a < 65536 := by
    simp [Lit.wf, IntKind.min, IntKind.max, IntKind.signed, IntKind.bits] at h
    omega
  exact ⟨a.toNat, by omega, by omega⟩
theorem wd_8 : gen_P8_57.f 200 = some 8 := by decide +kernel
theorem wd_16 : gen_P16_61.f 200 = some 16 := by decide +kernel
theorem wd_32 : gen_P32_63.f 200 = some 32 := by decide +kernel
theorem wd_64 : gen_P64_22.f 200 = some 64 := by decide +kernel
theorem wrap_nat {a : Nat} (h : a < 2 ^ 64) : IntKind.u64.wrap (a : Int) = (a : Int) := by rw [u64w]; omega
theorem neg_nat {a : Nat} (h : a < 2 ^ 64) : IntKind.u64.wrap (-(a : Int)) = (((2 ^ 64 - a) % 2 ^ 64 : Nat) : Int) := by rw [u64w]; omega
theorem widen_val {n m y : Nat} (hn : Wd n) (hm : Wd m) (hnm : n ≤ m) (hy : y < 2 ^ n) (k : Nat) : gen_Convert.f (k + 80) (n : Int) (m : Int) (y : Int) = some (((y * 2 ^ (m - n) : Nat) : Int), none) := by
  have hb := hn.bd
  have h64 : y < 2 ^ 64 := Nat.lt_of_lt_of_le hy (pow_le hb.2)
  have h := convert_widen hn hm hnm h64 k
  rw [Nat.mod_eq_of_lt hy] at h
  exact h
theorem back_val {n m y : Nat} (hn : Wd n) (hm : Wd m) (hnm : n ≤ m) (hy : y < 2 ^ n) (k : Nat) : gen_Convert.f (k + 80) (m : Int) (n : Int) ((y * 2 ^ (m - n) : Nat) : Int) = some ((y : Int), none) := by
  have h := convert_back (p := y) hn hm hnm k
  rw [Nat.mod_eq_of_lt hy] at h
  exact h
theorem means_of {n y : Nat} (hn : Wd n) (hy : y < 2 ^ n) : ∃ m, Means n y m := by
  have hb := hn.bd
  obtain ⟨m, h, _⟩ := decodes hn (p := y) (Nat.lt_of_lt_of_le hy (pow_le hb.2))
  rw [Nat.mod_eq_of_lt hy] at h
  exact ⟨m, h⟩
theorem up_lt {n x : Nat} (hn : n ≤ 64) (h : x < 2 ^ n) : x * 2 ^ (64 - n) < 2 ^ 64 := by
  have e := Nat.mul_lt_mul_of_pos_right h (pow_pos (64 - n))
  rw [pow_mul (show n + (64 - n) = 64 by omega)] at e
  exact e
theorem TopWide : verniertop_TopWide.Pure := by
  intro a0 a1 a2 a3 w0 w1 w2 w3
  obtain ⟨a, rfl, ha⟩ := u8_nat w0
  obtain ⟨b, rfl, hb⟩ := u8_nat w1
  obtain ⟨c, rfl, hc⟩ := u16_nat w2
  obtain ⟨d, rfl, hd⟩ := u16_nat w3
  have ww8 := wd8
  have ww16 := wd16
  have ww64 := wd64
  have ww32 : Wd 32 := by unfold Wd; omega
  obtain ⟨ma, hma⟩ := means_of ww8 ha
  obtain ⟨mb, hmb⟩ := means_of ww8 hb
  obtain ⟨mc, hmc⟩ := means_of ww16 hc
  obtain ⟨md, hmd⟩ := means_of ww16 hd
  have wa := hma.widen ww8 ww64 (by decide) ha
  have wb := hmb.widen ww8 ww64 (by decide) hb
  have wc := hmc.widen ww16 ww64 (by decide) hc
  have wd := hmd.widen ww16 ww64 (by decide) hd
  have la : a * 2 ^ (64 - 8) < 2 ^ 64 := up_lt (by decide) ha
  have lb : b * 2 ^ (64 - 8) < 2 ^ 64 := up_lt (by decide) hb
  have lc : c * 2 ^ (64 - 16) < 2 ^ 64 := up_lt (by decide) hc
  have ld : d * 2 ^ (64 - 16) < 2 ^ 64 := up_lt (by decide) hd
  have modm : ∀ x : Nat, x < 2 ^ 64 → x % 2 ^ 64 = x := fun x h => Nat.mod_eq_of_lt h

  have f1 : ∀ x : Nat, x < 2 ^ 8 → gen_P8_11.f 200 (x : Int) = some ((x * 2 ^ (64 - 8) : Nat) : Int) := by
    intro x hx
    unfold gen_P8_11.f
    have e := widen_val ww8 ww64 (by decide) hx 120
    rw [wd_8, Option.bind_some, wd_64, Option.bind_some, wrap_nat (by omega)]
    exact congrArg (fun o => o.bind fun b => some b.1) e
  have f2 : ∀ x : Nat, x < 2 ^ 16 → gen_P16_20.f 200 (x : Int) = some ((x * 2 ^ (64 - 16) : Nat) : Int) := by
    intro x hx
    unfold gen_P16_20.f
    have e := widen_val ww16 ww64 (by decide) hx 120
    rw [wd_16, Option.bind_some, wd_64, Option.bind_some, wrap_nat (by omega)]
    exact congrArg (fun o => o.bind fun b => some b.1) e
  have r8 : ∀ q : Nat, q < 2 ^ 8 → ((q : Int) % 256) = (q : Int) := fun q h => by omega
  have r16 : ∀ q : Nat, q < 2 ^ 16 → IntKind.u16.wrap (q : Int) = (q : Int) := fun q h => by rw [u16w_]; omega

  have sa : sum_Add.f 200 64 ((a * 2 ^ (64 - 8) : Nat) : Int) ((b * 2 ^ (64 - 8) : Nat) : Int) = some (((RZ 64 (-1000) (oadd (ma.v (-1000)) (mb.v (-1000))) : Nat) : Int), none) :=
    add_mn ww64 la lb (by rw [modm _ la]; exact wa) (by rw [modm _ lb]; exact wb) 100
  have sa8 : sum_Add.f 200 8 (a : Int) (b : Int) = some (((RZ 8 (-1000) (oadd (ma.v (-1000)) (mb.v (-1000))) : Nat) : Int), none) :=
    add_mn ww8 (by omega) (by omega) (by rw [Nat.mod_eq_of_lt ha]; exact hma) (by rw [Nat.mod_eq_of_lt hb]; exact hmb) 100

  have nb : Means 8 ((2 ^ 8 - b) % 2 ^ 8) mb.neg := hmb.neg ww8 hb
  have nb64 : (2 ^ 64 - b * 2 ^ (64 - 8)) % 2 ^ 64 = (2 ^ 8 - b) % 2 ^ 8 * 2 ^ (64 - 8) := by omega
  have nb8 : (2 ^ 64 - b) % 2 ^ 64 % 2 ^ 8 = (2 ^ 8 - b) % 2 ^ 8 := by omega
  have nlt : (2 ^ 8 - b) % 2 ^ 8 < 2 ^ 8 := Nat.mod_lt _ (by decide)
  have wnb := nb.widen ww8 ww64 (by decide) nlt
  have su : sum_Sub.f 200 64 ((a * 2 ^ (64 - 8) : Nat) : Int) ((b * 2 ^ (64 - 8) : Nat) : Int) = some (((RZ 64 (-1000) (oadd (ma.v (-1000)) (mb.neg.v (-1000))) : Nat) : Int), none) := by
    unfold sum_Sub.f
    rw [neg_nat lb, nb64]
    have e : sum_Add.f 200 64 ((a * 2 ^ (64 - 8) : Nat) : Int) (((2 ^ 8 - b) % 2 ^ 8 * 2 ^ (64 - 8) : Nat) : Int) = _ :=
      add_mn ww64 la (up_lt (by decide) nlt) (by rw [modm _ la]; exact wa) (by rw [modm _ (up_lt (by decide) nlt)]; exact wnb) 100
    rw [e]
    rfl
  have su8 : sum_Sub.f 200 8 (a : Int) (b : Int) = some (((RZ 8 (-1000) (oadd (ma.v (-1000)) (mb.neg.v (-1000))) : Nat) : Int), none) := by
    unfold sum_Sub.f
    rw [neg_nat (show b < 2 ^ 64 by omega)]
    have e : sum_Add.f 200 8 (a : Int) (((2 ^ 64 - b) % 2 ^ 64 : Nat) : Int) = _ :=
      add_mn ww8 (by omega) (Nat.mod_lt _ (by decide)) (by rw [Nat.mod_eq_of_lt ha]; exact hma) (by rw [nb8]; exact nb) 100
    rw [e]
    rfl

  have mu : prod_Mul.f 200 64 ((a * 2 ^ (64 - 8) : Nat) : Int) ((b * 2 ^ (64 - 8) : Nat) : Int) = some (((RZ 64 (-1000) (omul (-1000) ma mb) : Nat) : Int), none) :=
    mul_mn ww64 la lb (by rw [modm _ la]; exact wa) (by rw [modm _ lb]; exact wb) 100
  have mu8 : prod_Mul.f 200 8 (a : Int) (b : Int) = some (((RZ 8 (-1000) (omul (-1000) ma mb) : Nat) : Int), none) :=
    mul_mn ww8 (by omega) (by omega) (by rw [Nat.mod_eq_of_lt ha]; exact hma) (by rw [Nat.mod_eq_of_lt hb]; exact hmb) 100
  have mw : prod_Mul.f 200 64 ((c * 2 ^ (64 - 16) : Nat) : Int) ((d * 2 ^ (64 - 16) : Nat) : Int) = some (((RZ 64 (-1000) (omul (-1000) mc md) : Nat) : Int), none) :=
    mul_mn ww64 lc ld (by rw [modm _ lc]; exact wc) (by rw [modm _ ld]; exact wd) 100
  have mw16 : prod_Mul.f 200 16 (c : Int) (d : Int) = some (((RZ 16 (-1000) (omul (-1000) mc md) : Nat) : Int), none) :=
    mul_mn ww16 (by omega) (by omega) (by rw [Nat.mod_eq_of_lt hc]; exact hmc) (by rw [Nat.mod_eq_of_lt hd]; exact hmd) 100
  have c8 : ∀ κ, gen_Convert.f 200 64 8 ((RZ 64 (-1000) κ : Nat) : Int) = some (((RZ 8 (-1000) κ : Nat) : Int), none) → gen_P64_12.f 200 ((RZ 64 (-1000) κ : Nat) : Int) = some ((RZ 8 (-1000) κ : Nat) : Int) := by
    intro κ e
    unfold gen_P64_12.f
    rw [wd_64, Option.bind_some, wd_8, Option.bind_some, e, Option.bind_some, r8 _ (RZ_lt ww8 _ _)]
  have q1 := c8 _ (conv_sum8 hma hmb 120)
  have q2 := c8 _ (conv_sum8 hma nb 120)
  have q3 := c8 _ (conv_mul (.inl rfl) hma hmb 120)
  have q4 : gen_P64_19.f 200 ((RZ 64 (-1000) (omul (-1000) mc md) : Nat) : Int) = some ((RZ 16 (-1000) (omul (-1000) mc md) : Nat) : Int) := by
    have e : gen_Convert.f 200 64 16 ((RZ 64 (-1000) (omul (-1000) mc md) : Nat) : Int) = _ := conv_mul (.inr rfl) hmc hmd 120
    unfold gen_P64_19.f
    rw [wd_64, Option.bind_some, wd_16, Option.bind_some, e, Option.bind_some, r16 _ (RZ_lt ww16 _ _)]
  have g1 : gen_P64_13.f 200 ((a * 2 ^ (64 - 8) : Nat) : Int) ((b * 2 ^ (64 - 8) : Nat) : Int) = some ((RZ 64 (-1000) (oadd (ma.v (-1000)) (mb.v (-1000))) : Nat) : Int) := by unfold gen_P64_13.f; rw [sa, Option.bind_some]
  have g2 : gen_P8_14.f 200 (a : Int) (b : Int) = some ((RZ 8 (-1000) (oadd (ma.v (-1000)) (mb.v (-1000))) : Nat) : Int) := by unfold gen_P8_14.f; rw [wrap_nat (show a < 2 ^ 64 by omega), wrap_nat (show b < 2 ^ 64 by omega), sa8, Option.bind_some, r8 _ (RZ_lt ww8 _ _)]
  have g3 : gen_P64_15.f 200 ((a * 2 ^ (64 - 8) : Nat) : Int) ((b * 2 ^ (64 - 8) : Nat) : Int) = some ((RZ 64 (-1000) (oadd (ma.v (-1000)) (mb.neg.v (-1000))) : Nat) : Int) := by unfold gen_P64_15.f; rw [su, Option.bind_some]
  have g4 : gen_P8_16.f 200 (a : Int) (b : Int) = some ((RZ 8 (-1000) (oadd (ma.v (-1000)) (mb.neg.v (-1000))) : Nat) : Int) := by unfold gen_P8_16.f; rw [wrap_nat (show a < 2 ^ 64 by omega), wrap_nat (show b < 2 ^ 64 by omega), su8, Option.bind_some, r8 _ (RZ_lt ww8 _ _)]
  have g5 : gen_P64_17.f 200 ((a * 2 ^ (64 - 8) : Nat) : Int) ((b * 2 ^ (64 - 8) : Nat) : Int) = some ((RZ 64 (-1000) (omul (-1000) ma mb) : Nat) : Int) := by unfold gen_P64_17.f; rw [mu, Option.bind_some]
  have g6 : gen_P8_18.f 200 (a : Int) (b : Int) = some ((RZ 8 (-1000) (omul (-1000) ma mb) : Nat) : Int) := by unfold gen_P8_18.f; rw [wrap_nat (show a < 2 ^ 64 by omega), wrap_nat (show b < 2 ^ 64 by omega), mu8, Option.bind_some, r8 _ (RZ_lt ww8 _ _)]
  have g7 : gen_P64_17.f 200 ((c * 2 ^ (64 - 16) : Nat) : Int) ((d * 2 ^ (64 - 16) : Nat) : Int) = some ((RZ 64 (-1000) (omul (-1000) mc md) : Nat) : Int) := by unfold gen_P64_17.f; rw [mw, Option.bind_some]
  have g8 : gen_P16_21.f 200 (c : Int) (d : Int) = some ((RZ 16 (-1000) (omul (-1000) mc md) : Nat) : Int) := by unfold gen_P16_21.f; rw [wrap_nat (show c < 2 ^ 64 by omega), wrap_nat (show d < 2 ^ 64 by omega), mw16, Option.bind_some, r16 _ (RZ_lt ww16 _ _)]
  have g9 : gen_P64_12.f 200 ((a * 2 ^ (64 - 8) : Nat) : Int) = some (a : Int) := by
    have e : gen_Convert.f 200 64 8 ((a * 2 ^ (64 - 8) : Nat) : Int) = some ((a : Int), none) := back_val ww8 ww64 (by decide) ha 120
    unfold gen_P64_12.f
    rw [wd_64, Option.bind_some, wd_8, Option.bind_some, e, Option.bind_some, r8 _ ha]
  have g10 : gen_P16_24.f 200 (c : Int) = some ((c * 2 ^ (32 - 16) : Nat) : Int) := by
    have e : gen_Convert.f 200 16 32 (c : Int) = some (((c * 2 ^ (32 - 16) : Nat) : Int), none) := widen_val ww16 ww32 (by decide) hc 120
    unfold gen_P16_24.f
    rw [wd_16, Option.bind_some, wd_32, Option.bind_some, wrap_nat (show c < 2 ^ 64 by omega), e, Option.bind_some]
    refine congrArg some ?_
    show ((c * 2 ^ (32 - 16) : Nat) : Int) % 4294967296 = _
    omega
  have lc32 : c * 2 ^ (32 - 16) < 2 ^ 64 := by
    have e := Nat.mul_lt_mul_of_pos_right hc (pow_pos (32 - 16))
    rw [pow_mul (show 16 + (32 - 16) = 32 by omega)] at e
    exact Nat.lt_trans e (by decide)
  have g11 : gen_P32_23.f 200 ((c * 2 ^ (32 - 16) : Nat) : Int) = some (c : Int) := by
    have e : gen_Convert.f 200 32 16 ((c * 2 ^ (32 - 16) : Nat) : Int) = some ((c : Int), none) := back_val ww16 ww32 (by decide) hc 120
    unfold gen_P32_23.f
    rw [wd_32, Option.bind_some, wd_16, Option.bind_some, wrap_nat lc32, e, Option.bind_some, r16 _ hc]
  refine ⟨200, ?_⟩
  unfold verniertop_TopWide.f
  rw [f1 a ha, Option.bind_some, f1 b hb, Option.bind_some, g1, Option.bind_some, q1, Option.bind_some, g2, Option.bind_some, g3, Option.bind_some, q2, Option.bind_some, g4, Option.bind_some, g5, Option.bind_some, q3, Option.bind_some, g6, Option.bind_some,
    f2 c hc, Option.bind_some, f2 d hd, Option.bind_some, g7, Option.bind_some, q4, Option.bind_some, g8, Option.bind_some, if_pos rfl, if_pos rfl, if_pos rfl, if_pos rfl, wd_64, Option.bind_some, if_pos rfl, g9, Option.bind_some, if_pos rfl, g10, Option.bind_some, g11, Option.bind_some]
  simp
end Go.Proofs.Ytnlbfomlfhigcaa.Pure
