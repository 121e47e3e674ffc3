/- Walks and plain laws that the claim stands on: each theorem named calls says that a call of a function returns what its f computes; the others are plain laws of these f, and the words that the walks use. -/
import Derived.Test.YtnlbfomlfhigcaaFuseExactsV21
import Derived.Test.YtnlbfomlfhigcaaFuseExactsV7
import Derived.Test.YtnlbfomlfhigcaaFuseExactsV8
namespace Go.Proofs.Ytnlbfomlfhigcaa.M
open Go.RowKit Go.Proofs.YtnlbfomlfhigcaaW.PrintWords Go.Proofs.YtnlbfomlfhigcaaW.PrintLast Go.Proofs.YtnlbfomlfhigcaaW.PrintMore Go.Proofs.Ytnlbfomlfhigcaa.Q
theorem sh1 (H L : Nat) {n : Nat} (hn : n ≤ 64) : (H * 2 ^ 64 + L) / 2 ^ n = H / 2 ^ n * 2 ^ 64 + (H % 2 ^ n * 2 ^ (64 - n) + L / 2 ^ n) := by
  have e : H * 2 ^ 64 + L = 2 ^ n * (H / 2 ^ n * 2 ^ 64 + H % 2 ^ n * 2 ^ (64 - n)) + L := by
    have h1 := Nat.div_add_mod H (2 ^ n)
    have h2 : 2 ^ 64 = 2 ^ n * 2 ^ (64 - n) := pow_split hn
    have h3 : H * 2 ^ 64 = 2 ^ n * (H / 2 ^ n) * 2 ^ 64 + H % 2 ^ n * 2 ^ 64 := by rw [← Nat.add_mul, h1]
    have h4 : H % 2 ^ n * 2 ^ 64 = 2 ^ n * (H % 2 ^ n * 2 ^ (64 - n)) := by rw [h2, Nat.mul_left_comm]
    rw [h3, h4, Nat.mul_add, Nat.mul_assoc]
  rw [e, Nat.mul_add_div (pow_pos n), Nat.add_assoc]
theorem or_words {x y n : Nat} (_ : x < 2 ^ 64) (hy : y < 2 ^ 64) (h1 : 1 ≤ n) (h2 : n ≤ 63) : Go.bits .or .u64 (shr .u64 (y : Int) (n : Int)) (shl .u64 (x : Int) ((64 - n : Nat) : Int)) = ((x % 2 ^ n * 2 ^ (64 - n) + y / 2 ^ n : Nat) : Int) := by
  rw [shr_nat y n (by omega), shl_nat x (64 - n) (by omega)]
  have h3 : y / 2 ^ n < 2 ^ (64 - n) := by
    rw [Nat.div_lt_iff_lt_mul (pow_pos _), ← Nat.pow_add, show 64 - n + n = 64 by omega]
    exact hy
  have h4 : x * 2 ^ (64 - n) % 2 ^ 64 % 2 ^ (64 - n) = 0 := by
    rw [pow_split (show 64 - n ≤ 64 by omega), Nat.mod_mul_right_mod, Nat.mul_mod_left]
  have h5 := or_add (x * 2 ^ (64 - n) % 2 ^ 64) (y / 2 ^ n) (64 - n) (Nat.mod_lt _ (by decide)) h3 (by omega) h4
  rw [or_nat _ _ (Nat.mod_lt _ (by decide)) (word_lt hy)] at h5
  rw [or_nat _ _ (word_lt hy) (Nat.mod_lt _ (by decide)), Nat.or_comm, h5]
  have h6 : x * 2 ^ (64 - n) % 2 ^ 64 = x % 2 ^ n * 2 ^ (64 - n) := by
    rw [show (2 : Nat) ^ 64 = 2 ^ n * 2 ^ (64 - n) from pow_split (by omega), Nat.mul_mod_mul_right]
  rw [h6]
theorem part_lt {x y n : Nat} (hy : y < 2 ^ 64) (h2 : n ≤ 64) : x % 2 ^ n * 2 ^ (64 - n) + y / 2 ^ n < 2 ^ 64 := by
  have h3 : y / 2 ^ n < 2 ^ (64 - n) := by
    rw [Nat.div_lt_iff_lt_mul (pow_pos _), ← Nat.pow_add, show 64 - n + n = 64 by omega]
    exact hy
  have h4 := Nat.mod_lt x (pow_pos n)
  have h5 := Nat.mul_le_mul_right (2 ^ (64 - n)) (show x % 2 ^ n + 1 ≤ 2 ^ n by omega)
  rw [← Nat.pow_add, show n + (64 - n) = 64 by omega, Nat.add_mul, Nat.one_mul] at h5
  omega
theorem q4_mod {a b c d n : Nat} (hn : n ≤ 64) : q4 a b c d % 2 ^ n = d % 2 ^ n := by
  unfold q4
  rw [pow_split hn, Nat.mul_comm (2 ^ n), ← Nat.mul_assoc, Nat.add_comm, Nat.add_mul_mod_self_right]
theorem under_last {a b c d n : Nat} (ha : a < 2 ^ 64) (hb : b < 2 ^ 64) (hc : c < 2 ^ 64) (hd : d < 2 ^ 64) (h1 : 1 ≤ n) (h2 : n ≤ 63) (lost : Bool) (k : Nat) :
    ∃ a' b' c' d' : Nat, broad_wide_under.l0 (k + 1) (n : Int) lost (a : Int) (b : Int) (c : Int) (d : Int) = some ((a' : Int), (b' : Int), (c' : Int), (d' : Int), (lost || decide (q4 a b c d % 2 ^ n ≠ 0))) ∧
      a' < 2 ^ 64 ∧ b' < 2 ^ 64 ∧ c' < 2 ^ 64 ∧ d' < 2 ^ 64 ∧ q4 a' b' c' d' = q4 a b c d / 2 ^ n := by
  have hw : wrap64 (64 - (n : Int)) = ((64 - n : Nat) : Int) := by unfold wrap64; omega
  refine ⟨a / 2 ^ n, a % 2 ^ n * 2 ^ (64 - n) + b / 2 ^ n, b % 2 ^ n * 2 ^ (64 - n) + c / 2 ^ n, c % 2 ^ n * 2 ^ (64 - n) + d / 2 ^ n, ?_, word_lt ha, part_lt hb (by omega), part_lt hc (by omega), part_lt hd (by omega), ?_⟩
  · rw [broad_wide_under.l0, if_neg (by omega), if_neg (by omega), hw, or_words ha hb h1 h2, or_words hb hc h1 h2, or_words hc hd h1 h2, shr_nat a n (by omega), q4_mod (by omega)]
    cases lost
    · rw [if_neg (by decide), if_pos (by omega), if_pos (by omega), shl_nat d (64 - n) (by omega)]
      have h6 : d * 2 ^ (64 - n) % 2 ^ 64 = d % 2 ^ n * 2 ^ (64 - n) := by
        rw [show (2 : Nat) ^ 64 = 2 ^ n * 2 ^ (64 - n) from pow_split (by omega), Nat.mul_mod_mul_right]
      rw [h6]
      have h7 : ((((d % 2 ^ n * 2 ^ (64 - n) : Nat) : Int) != 0) : Bool) = (false || decide (d % 2 ^ n ≠ 0)) := by
        have hp := pow_pos (64 - n)
        by_cases z : d % 2 ^ n = 0
        · rw [z]
          simp
        · have := Nat.mul_ne_zero z (show 2 ^ (64 - n) ≠ 0 by omega)
          rw [decide_eq_true z]
          simp only [Bool.or_true, bne_iff_ne, ne_eq]
          omega
      rw [h7]
    · rw [if_pos rfl, if_pos (by omega), if_pos (by omega)]
      rfl
  · unfold q4
    rw [sh1 _ d (by omega), sh1 _ c (by omega), sh1 a b (by omega)]
    have m1 : ((a * 2 ^ 64 + b) * 2 ^ 64 + c) % 2 ^ n = c % 2 ^ n := by
      rw [pow_split (show n ≤ 64 by omega), Nat.mul_comm (2 ^ n), ← Nat.mul_assoc, Nat.add_comm, Nat.add_mul_mod_self_right]
    have m2 : (a * 2 ^ 64 + b) % 2 ^ n = b % 2 ^ n := by
      rw [pow_split (show n ≤ 64 by omega), Nat.mul_comm (2 ^ n), ← Nat.mul_assoc, Nat.add_comm, Nat.add_mul_mod_self_right]
    rw [m1, m2]
theorem under_l0 (k : Nat) : ∀ (t x : Nat) (lost : Bool) (a b c d : Nat), t ≤ 10 → x < 64 * (t + 1) → a < 2 ^ 64 → b < 2 ^ 64 → c < 2 ^ 64 → d < 2 ^ 64 →
    ∃ a' b' c' d' : Nat, broad_wide_under.l0 (k + t + 1) (x : Int) lost (a : Int) (b : Int) (c : Int) (d : Int) = some ((a' : Int), (b' : Int), (c' : Int), (d' : Int), (lost || decide (q4 a b c d % 2 ^ x ≠ 0))) ∧
      a' < 2 ^ 64 ∧ b' < 2 ^ 64 ∧ c' < 2 ^ 64 ∧ d' < 2 ^ 64 ∧ q4 a' b' c' d' = q4 a b c d / 2 ^ x := by
  intro t
  have small : ∀ (k x : Nat) (lost : Bool) (a b c d : Nat), x < 64 → a < 2 ^ 64 → b < 2 ^ 64 → c < 2 ^ 64 → d < 2 ^ 64 →
    ∃ a' b' c' d' : Nat, broad_wide_under.l0 (k + 1) (x : Int) lost (a : Int) (b : Int) (c : Int) (d : Int) = some ((a' : Int), (b' : Int), (c' : Int), (d' : Int), (lost || decide (q4 a b c d % 2 ^ x ≠ 0))) ∧
      a' < 2 ^ 64 ∧ b' < 2 ^ 64 ∧ c' < 2 ^ 64 ∧ d' < 2 ^ 64 ∧ q4 a' b' c' d' = q4 a b c d / 2 ^ x := by
    intro k x lost a b c d hx ha hb hc hd
    by_cases h0 : x = 0
    · subst h0
      refine ⟨a, b, c, d, ?_, ha, hb, hc, hd, by rw [Nat.pow_zero, Nat.div_one]⟩
      rw [broad_wide_under.l0, if_neg (by omega), if_pos (by omega), Nat.pow_zero, Nat.mod_one]
      simp
    · exact under_last ha hb hc hd (by omega) (by omega) lost k
  induction t with
  | zero =>
    intro x lost a b c d _ hx
    exact small k x lost a b c d (by omega)
  | succ t ih =>
    intro x lost a b c d ht hx ha hb hc hd
    by_cases h64 : x < 64
    · exact small (k + (t + 1)) x lost a b c d h64 ha hb hc hd
    · have hw : wrap64 ((x : Int) - 64) = ((x - 64 : Nat) : Int) := by unfold wrap64; omega
      obtain ⟨a', b', c', d', e, r1, r2, r3, r4, r5⟩ := ih (x - 64) (lost || decide (d ≠ 0)) 0 a b c (by omega) (by omega) (by decide) ha hb hc
      have hx2 : 2 ^ x = 2 ^ 64 * 2 ^ (x - 64) := pow_split (by omega)
      have hq : q4 a b c d = q4 0 a b c * 2 ^ 64 + d := by unfold q4; omega
      refine ⟨a', b', c', d', ?_, r1, r2, r3, r4, ?_⟩
      · rw [show k + (t + 1) + 1 = (k + t + 1) + 1 by omega, broad_wide_under.l0, if_pos (by omega), hw]
        have hb2 : (lost || decide (q4 a b c d % 2 ^ x ≠ 0)) = ((lost || decide (d ≠ 0)) || decide (q4 0 a b c % 2 ^ (x - 64) ≠ 0)) := by
          rw [hx2, Nat.mod_mul, hq]
          have e1 : (q4 0 a b c * 2 ^ 64 + d) % 2 ^ 64 = d := by omega
          have e2 : (q4 0 a b c * 2 ^ 64 + d) / 2 ^ 64 = q4 0 a b c := by omega
          rw [e1, e2]
          generalize q4 0 a b c % 2 ^ (x - 64) = z
          cases lost
          · rw [Bool.false_or, Bool.false_or, ← Bool.decide_or]
            exact decide_eq_decide.mpr (by omega)
          · simp
        rw [hb2]
        cases lost
        · rw [if_neg (by decide)]
          have e3 : (((d : Int) != 0) : Bool) = (false || decide (d ≠ 0)) := by
            by_cases z : d = 0
            · subst z; rfl
            · rw [decide_eq_true z]
              simp only [Bool.or_true, bne_iff_ne, ne_eq]
              omega
          rw [e3]
          exact e
        · rw [if_pos rfl]
          rw [Bool.true_or] at e ⊢
          exact e
      · have e2 : (q4 0 a b c * 2 ^ 64 + d) / 2 ^ 64 = q4 0 a b c := by omega
        rw [r5, hx2, ← Nat.div_div_eq_div_mul, hq, e2]
theorem under_val {a b c d x : Nat} (ha : a < 2 ^ 64) (hb : b < 2 ^ 64) (hc : c < 2 ^ 64) (hd : d < 2 ^ 64) (k : Nat) :
    ∃ a' b' c' d' : Nat, broad_wide_under.f (k + 4) (a : Int) (b : Int) (c : Int) (d : Int) (x : Int) = some ((a' : Int), (b' : Int), (c' : Int), (d' : Int), decide (q4 a b c d % 2 ^ x ≠ 0)) ∧
      a' < 2 ^ 64 ∧ b' < 2 ^ 64 ∧ c' < 2 ^ 64 ∧ d' < 2 ^ 64 ∧ q4 a' b' c' d' = q4 a b c d / 2 ^ x := by
  unfold broad_wide_under.f
  by_cases h : 256 ≤ x
  · have hq := q4_lt ha hb hc hd
    have hp : 2 ^ 256 ≤ 2 ^ x := pow_le h
    refine ⟨0, 0, 0, 0, ?_, by decide, by decide, by decide, by decide, ?_⟩
    · rw [if_pos (by omega), Nat.mod_eq_of_lt (Nat.lt_of_lt_of_le hq hp)]
      have : (!((a : Int) == 0) || (!((b : Int) == 0) || (!((c : Int) == 0) || (!((d : Int) == 0))))) = decide (q4 a b c d ≠ 0) := by
        rw [Bool.eq_iff_iff]
        simp only [Bool.or_eq_true, Bool.not_eq_true', beq_eq_false_iff_ne, ne_eq, decide_eq_true_eq]
        unfold q4
        omega
      rw [this]
      rfl
    · rw [Nat.div_eq_of_lt (Nat.lt_of_lt_of_le hq hp)]
      rfl
  · rw [if_neg (by omega)]
    have := under_l0 k 3 x false a b c d (by omega) (by omega) ha hb hc hd
    simpa only [Bool.false_or] using this
theorem upW_nat {x y n : Nat} (_ : x < 2 ^ 64) (hy : y < 2 ^ 64) (h1 : 1 ≤ n) (h2 : n ≤ 63) : upW (x : Int) (y : Int) (n : Int) = ((x * 2 ^ n % 2 ^ 64 + y / 2 ^ (64 - n) : Nat) : Int) := by
  unfold upW
  have e1 : (64 - (n : Int)).toNat = 64 - n := by omega
  have e2 : IntKind.u64.wrap ((x : Int) * 2 ^ ((n : Int)).toNat) = ((x * 2 ^ n % 2 ^ 64 : Nat) : Int) := by
    rw [u64w, Int.toNat_natCast, cast_pow]
    rw [← Int.natCast_mul]
    omega
  have e3 : (y : Int) / 2 ^ (64 - n) = ((y / 2 ^ (64 - n) : Nat) : Int) := by
    rw [cast_pow]
    rfl
  rw [e1, e2, e3]
  have h3 : y / 2 ^ (64 - n) < 2 ^ n := by
    rw [Nat.div_lt_iff_lt_mul (pow_pos _), ← Nat.pow_add, show n + (64 - n) = 64 by omega]
    exact hy
  have h4 : x * 2 ^ n % 2 ^ 64 % 2 ^ n = 0 := by
    rw [pow_split (show n ≤ 64 by omega), Nat.mod_mul_right_mod, Nat.mul_mod_left]
  exact or_add _ _ n (Nat.mod_lt _ (by decide)) h3 (by omega) h4
theorem up_part {y n : Nat} (h2 : n ≤ 64) : y * 2 ^ n = y / 2 ^ (64 - n) * 2 ^ 64 + y * 2 ^ n % 2 ^ 64 := by
  have h := Nat.div_add_mod (y * 2 ^ n) (2 ^ 64)
  have e : y * 2 ^ n / 2 ^ 64 = y / 2 ^ (64 - n) := by
    rw [show (2 : Nat) ^ 64 = 2 ^ (64 - n) * 2 ^ n by rw [← Nat.pow_add]; exact congrArg (2 ^ ·) (by omega)]
    exact Nat.mul_div_mul_right _ _ (pow_pos n)
  rw [e, Nat.mul_comm] at h
  exact h.symm
theorem q4_aux {A B C D b1 c1 d1 : Nat} (pa : A = 0 * 2 ^ 64 + A % 2 ^ 64) (pb : B = b1 * 2 ^ 64 + B % 2 ^ 64) (pc : C = c1 * 2 ^ 64 + C % 2 ^ 64) (pd : D = d1 * 2 ^ 64 + D % 2 ^ 64) :
    q4 (A % 2 ^ 64 + b1) (B % 2 ^ 64 + c1) (C % 2 ^ 64 + d1) (D % 2 ^ 64) = ((A * 2 ^ 64 + B) * 2 ^ 64 + C) * 2 ^ 64 + D := by
  unfold q4
  omega
theorem q4_up {a b c d n : Nat} (ha : a < 2 ^ (64 - n)) (hn : n ≤ 64) :
    q4 (a * 2 ^ n % 2 ^ 64 + b / 2 ^ (64 - n)) (b * 2 ^ n % 2 ^ 64 + c / 2 ^ (64 - n)) (c * 2 ^ n % 2 ^ 64 + d / 2 ^ (64 - n)) (d * 2 ^ n % 2 ^ 64) = q4 a b c d * 2 ^ n := by
  have pa := up_part (y := a) hn
  have pb := up_part (y := b) hn
  have pc := up_part (y := c) hn
  have pd := up_part (y := d) hn
  rw [Nat.div_eq_of_lt ha] at pa
  have e : q4 a b c d * 2 ^ n = ((a * 2 ^ n * 2 ^ 64 + b * 2 ^ n) * 2 ^ 64 + c * 2 ^ n) * 2 ^ 64 + d * 2 ^ n := by
    unfold q4
    simp only [Nat.add_mul]
    simp only [Nat.mul_right_comm _ (2 ^ 64) (2 ^ n)]
  rw [e]
  exact q4_aux pa pb pc pd
theorem raisedW_val {a b c d : Nat} (ha : a < 2 ^ 64) (hb : b < 2 ^ 64) (hc : c < 2 ^ 64) (hd : d < 2 ^ 64) (h0 : a ≠ 0) (j : Nat) :
    ∃ a' b' c' d' s : Nat, raisedW (a : Int) (b : Int) (c : Int) (d : Int) (j : Int) = ((a' : Int), (b' : Int), (c' : Int), (d' : Int), ((j + s : Nat) : Int)) ∧
      a' < 2 ^ 64 ∧ b' < 2 ^ 64 ∧ c' < 2 ^ 64 ∧ d' < 2 ^ 64 ∧ s ≤ 63 ∧ 2 ^ 63 ≤ a' ∧ q4 a' b' c' d' = q4 a b c d * 2 ^ s := by
  obtain ⟨l1, l2, l3, l4⟩ := bitLen_bd ha h0
  unfold raisedW
  rw [Int.toNat_natCast]
  by_cases z : Lib.bitLen a = 64
  · rw [z] at l3
    refine ⟨a, b, c, d, 0, ?_, ha, hb, hc, hd, by omega, by simpa using l3, by rw [Nat.pow_zero, Nat.mul_one]⟩
    rw [if_pos (by omega)]
    rfl
  · have hs : 64 - (Lib.bitLen a : Int) = ((64 - Lib.bitLen a : Nat) : Int) := by omega
    rw [if_neg (by omega), hs]
    generalize hn : 64 - Lib.bitLen a = n
    have hn1 : 1 ≤ n := by omega
    have hn2 : n ≤ 63 := by omega
    have ha2 : a < 2 ^ (64 - n) := by rw [show 64 - n = Lib.bitLen a by omega]; exact l4
    have ha3 : 2 ^ (63 - n) ≤ a := by rw [show 63 - n = Lib.bitLen a - 1 by omega]; exact l3
    have ea : a * 2 ^ n % 2 ^ 64 = a * 2 ^ n := by
      refine Nat.mod_eq_of_lt ?_
      have := Nat.mul_lt_mul_of_pos_right ha2 (pow_pos n)
      rw [← Nat.pow_add, show 64 - n + n = 64 by omega] at this
      exact this
    have ea2 : 2 ^ 63 ≤ a * 2 ^ n := by
      have := Nat.mul_le_mul_right (2 ^ n) ha3
      rw [← Nat.pow_add, show 63 - n + n = 63 by omega] at this
      exact this
    have hlt : ∀ x y : Nat, y < 2 ^ 64 → x * 2 ^ n % 2 ^ 64 + y / 2 ^ (64 - n) < 2 ^ 64 := by
      intro x y hy
      have h3 : y / 2 ^ (64 - n) < 2 ^ n := by
        rw [Nat.div_lt_iff_lt_mul (pow_pos _), ← Nat.pow_add, show n + (64 - n) = 64 by omega]
        exact hy
      have h4 : x * 2 ^ n % 2 ^ 64 = x % 2 ^ (64 - n) * 2 ^ n := by
        rw [show (2 : Nat) ^ 64 = 2 ^ (64 - n) * 2 ^ n by rw [← Nat.pow_add]; exact congrArg (2 ^ ·) (by omega), Nat.mul_mod_mul_right]
      have h5 := Nat.mod_lt x (pow_pos (64 - n))
      have h6 := Nat.mul_le_mul_right (2 ^ n) (show x % 2 ^ (64 - n) + 1 ≤ 2 ^ (64 - n) by omega)
      rw [← Nat.pow_add, show 64 - n + n = 64 by omega, Nat.add_mul, Nat.one_mul] at h6
      omega
    refine ⟨a * 2 ^ n % 2 ^ 64 + b / 2 ^ (64 - n), b * 2 ^ n % 2 ^ 64 + c / 2 ^ (64 - n), c * 2 ^ n % 2 ^ 64 + d / 2 ^ (64 - n), d * 2 ^ n % 2 ^ 64, n, ?_, hlt a b hb, hlt b c hc, hlt c d hd, Nat.mod_lt _ (by decide), hn2, by rw [ea]; exact Nat.le_trans ea2 (Nat.le_add_right _ _), q4_up ha2 (by omega)⟩
    rw [upW_nat ha hb hn1 hn2, upW_nat hb hc hn1 hn2, upW_nat hc hd hn1 hn2]
    have e2 : IntKind.u64.wrap ((d : Int) * 2 ^ ((n : Int)).toNat) = ((d * 2 ^ n % 2 ^ 64 : Nat) : Int) := by
      rw [u64w, Int.toNat_natCast, cast_pow]
      rw [← Int.natCast_mul]
      omega
    rw [e2]
    rfl
theorem raised_val {a b c d : Nat} (ha : a < 2 ^ 64) (hb : b < 2 ^ 64) (hc : c < 2 ^ 64) (hd : d < 2 ^ 64) (h0 : q4 a b c d ≠ 0) :
    ∃ a' b' c' d' s : Nat, broad_wide_raised.f (a : Int) (b : Int) (c : Int) (d : Int) = some ((a' : Int), (b' : Int), (c' : Int), (d' : Int), (s : Int)) ∧
      a' < 2 ^ 64 ∧ b' < 2 ^ 64 ∧ c' < 2 ^ 64 ∧ d' < 2 ^ 64 ∧ s ≤ 255 ∧ 2 ^ 63 ≤ a' ∧ q4 a' b' c' d' = q4 a b c d * 2 ^ s := by
  unfold broad_wide_raised.f
  rw [if_pos ⟨w64_nat ha, w64_nat hb, w64_nat hc, w64_nat hd⟩]
  have hsh : ∀ (x y z s : Nat), q4 0 x y z * 2 ^ (64 + s) = q4 x y z 0 * 2 ^ s := by
    intro x y z s
    have e : q4 0 x y z * 2 ^ 64 = q4 x y z 0 := by
      unfold q4
      omega
    rw [Nat.pow_add, ← Nat.mul_assoc, e]
  by_cases z0 : a = 0
  · subst z0
    rw [if_pos (by rfl)]
    by_cases z1 : b = 0
    · subst z1
      rw [if_pos (by rfl)]
      by_cases z2 : c = 0
      · subst z2
        rw [if_pos (by rfl)]
        by_cases z3 : d = 0
        · subst z3
          exact absurd rfl h0
        · rw [if_neg (by omega)]
          obtain ⟨a', b', c', d', s, e, r1, r2, r3, r4, r5, r6, r7⟩ := raisedW_val hd (show 0 < 2 ^ 64 by decide) (show 0 < 2 ^ 64 by decide) (show 0 < 2 ^ 64 by decide) z3 192
          refine ⟨a', b', c', d', 192 + s, congrArg some e, r1, r2, r3, r4, by omega, r6, ?_⟩
          rw [r7, show 192 + s = 64 + (64 + (64 + s)) by omega, hsh, hsh, hsh]
      · rw [if_neg (by omega)]
        obtain ⟨a', b', c', d', s, e, r1, r2, r3, r4, r5, r6, r7⟩ := raisedW_val hc hd (show 0 < 2 ^ 64 by decide) (show 0 < 2 ^ 64 by decide) z2 128
        refine ⟨a', b', c', d', 128 + s, congrArg some e, r1, r2, r3, r4, by omega, r6, ?_⟩
        rw [r7, show 128 + s = 64 + (64 + s) by omega, hsh, hsh]
    · rw [if_neg (by omega)]
      obtain ⟨a', b', c', d', s, e, r1, r2, r3, r4, r5, r6, r7⟩ := raisedW_val hb hc hd (show 0 < 2 ^ 64 by decide) z1 64
      refine ⟨a', b', c', d', 64 + s, congrArg some e, r1, r2, r3, r4, by omega, r6, ?_⟩
      rw [r7, hsh]
  · rw [if_neg (by omega)]
    obtain ⟨a', b', c', d', s, e, r1, r2, r3, r4, r5, r6, r7⟩ := raisedW_val ha hb hc hd z0 0
    refine ⟨a', b', c', d', s, ?_, r1, r2, r3, r4, by omega, r6, r7⟩
    have e' := congrArg some e
    rw [Nat.zero_add] at e'
    exact e'
end Go.Proofs.Ytnlbfomlfhigcaa.M
namespace Go.Proofs.Ytnlbfomlfhigcaa.M
open Go.RowKit Go.Proofs.YtnlbfomlfhigcaaW.PrintWords Go.Proofs.YtnlbfomlfhigcaaW.PrintLast Go.Proofs.YtnlbfomlfhigcaaW.PrintMore Go.Proofs.Ytnlbfomlfhigcaa.Q
def hld (s : Int) : Int := mx (-1099511627776) (mn s 1099511627776)
def Sout (u Z : Int) (r : Option (Int × Bool × Int × Int × Int × Bool)) : Prop :=
  (Z = 0 ∧ r = some (0, false, 0, 0, 0, false)) ∨ (∃ j, Hi j Z.natAbs ∧ r = some (1, decide (Z < 0), hld (u + (j : Int)), ((tF j Z.natAbs / 2 ^ 64 : Nat) : Int), ((tF j Z.natAbs % 2 ^ 64 : Nat) : Int), tB j Z.natAbs))
theorem q4_parts {a b c d : Nat} (hb : b < 2 ^ 64) (hc : c < 2 ^ 64) (hd : d < 2 ^ 64) : q4 a b c d / 2 ^ 128 = a * 2 ^ 64 + b ∧ q4 a b c d % 2 ^ 128 = c * 2 ^ 64 + d ∧ q4 a b c d / 2 ^ 128 / 2 ^ 64 = a ∧ q4 a b c d / 2 ^ 128 % 2 ^ 64 = b := by
  have h1 : q4 a b c d / 2 ^ 128 = a * 2 ^ 64 + b := by
    unfold q4
    omega
  refine ⟨h1, by unfold q4; omega, ?_, ?_⟩
  · rw [h1]
    omega
  · rw [h1]
    omega
theorem j5_val {a b c d : Nat} (hb : b < 2 ^ 64) (hc : c < 2 ^ 64) (hd : d < 2 ^ 64) (rest neg : Bool) (s : Int) (k : Nat) :
    broad_Sum.j5 (k + 2) rest 1 neg s 0 0 false (a : Int) (b : Int) (c : Int) (d : Int) = some (1, neg, hld s, (a : Int), (b : Int), (rest || decide (q4 a b c d % 2 ^ 128 ≠ 0))) := by
  rw [(q4_parts hb hc hd).2.1, broad_Sum.j5]
  cases rest
  · rw [if_neg (by decide)]
    by_cases h : c = 0
    · subst h
      have e : (((d : Int) != 0) : Bool) = (false || decide (0 * 2 ^ 64 + d ≠ 0)) := by
        by_cases z : d = 0
        · subst z; rfl
        · rw [decide_eq_true (show 0 * 2 ^ 64 + d ≠ 0 by omega)]
          simp only [Bool.or_true, bne_iff_ne, ne_eq]
          omega
      rw [if_pos (by rfl), broad_Sum.j6, e]
      rfl
    · rw [if_neg (by omega), broad_Sum.j6, decide_eq_true (show c * 2 ^ 64 + d ≠ 0 by omega)]
      rfl
  · rw [if_pos rfl, broad_Sum.j6]
    rfl
theorem fin_val {a b c d N l u v cc : Nat} {Z u0 s : Int} {rest neg : Bool} (hb : b < 2 ^ 64) (hc : c < 2 ^ 64) (hd : d < 2 ^ 64) (hW : 2 ^ 255 ≤ q4 a b c d) (hW2 : q4 a b c d < 2 ^ 256)
    (he : N * 2 ^ u = q4 a b c d * 2 ^ v + l) (hl : l < 2 ^ (v + cc)) (hcc : q4 a b c d % 2 ^ cc = 0) (hcc2 : cc ≤ 128) (hZ : Z.natAbs = N) (hneg : neg = decide (Z < 0)) (hrest : rest = decide (l ≠ 0))
    (hs : s = u0 + 255 + (v : Int) - (u : Int)) (k : Nat) : Sout u0 Z (broad_Sum.j5 (k + 2) rest 1 neg s 0 0 false (a : Int) (b : Int) (c : Int) (d : Int)) := by
  obtain ⟨t1, t2, t3, t4⟩ := top_of he hl hcc hcc2 hW hW2
  have hq := q4_parts (a := a) hb hc hd
  refine .inr ⟨255 + v - u, by rw [hZ]; exact t2, ?_⟩
  rw [j5_val hb hc hd, hZ, t3, t4, hq.2.2.1, hq.2.2.2, ← hneg, hrest, Bool.or_comm]
  have e : u0 + ((255 + v - u : Nat) : Int) = s := by omega
  rw [e]
theorem or_top {x : Nat} (h : x < 2 ^ 63) : Go.bits .or .u64 (x : Int) 9223372036854775808 = ((x + 2 ^ 63 : Nat) : Int) := by
  have e := or_add (2 ^ 63) x 63 (by decide) h (by decide) (by decide)
  rw [or_nat _ _ (by decide) (by omega), Nat.or_comm, ← or_nat _ _ (by omega) (by decide)] at e
  have : ((2 ^ 63 : Nat) : Int) = 9223372036854775808 := by decide
  rw [this] at e
  rw [e, Nat.add_comm]
theorem and_one {x : Nat} (h : x < 2 ^ 64) : Go.bits .and .u64 (x : Int) 1 = ((x % 2 : Nat) : Int) := and_mask x 1 h (by decide)
theorem q4_top (a b c d : Nat) : q4 (a + 2 ^ 63) b c d = q4 a b c d + 2 ^ 255 := by
  unfold q4
  omega
theorem dbl_aux (h r p m : Nat) : (h * 2 + r) * p + m = h * (p * 2) + (r * p + m) := by rw [Nat.add_mul, Nat.mul_assoc, Nat.mul_comm 2 p, Nat.add_assoc]
theorem same_val {hx lx hy ly : Nat} {sx sy : Int} {n : Bool} (h1 : 2 ^ 63 ≤ hx) (h2 : hx < 2 ^ 64) (h3 : lx < 2 ^ 64) (h4 : hy < 2 ^ 64) (h5 : ly < 2 ^ 64) (b1 : -1099511627776 ≤ sx) (b2 : sx ≤ 1099511627776) (b3 : -1099511627776 ≤ sy) (hle : sy ≤ sx) (k : Nat) :
    ∀ Z : Int, Z.natAbs = (hx * 2 ^ 64 + lx) * 2 ^ (sx - sy).toNat + (hy * 2 ^ 64 + ly) → n = decide (Z < 0) →
    Sout (sy - 127) Z (broad_Sum.j1 (k + 5) 1 n sx (hx : Int) (lx : Int) false 1 n sy (hy : Int) (ly : Int) false) := by
  intro Z hZ hn
  generalize hd : (sx - sy).toNat = d at hZ
  have hw : wrap64 (sx - sy) = (d : Int) := by unfold wrap64; omega
  obtain ⟨b0, bb1, bb2, bb3, eu, u1, u2, u3, u4, u5⟩ := under_val (x := d) h4 h5 (show 0 < 2 ^ 64 by decide) (show 0 < 2 ^ 64 by decide) k
  obtain ⟨s0, s1, s2, s3, o, ep, p1, p2, p3, p4, p5, p6⟩ := plus_val h2 h3 (show 0 < 2 ^ 64 by decide) (show 0 < 2 ^ 64 by decide) u1 u2 u3 u4
  have h0 : ((0 : Nat) : Int) = 0 := rfl
  rw [h0] at eu ep
  have hpd := pow_pos d
  have hY : q4 hy ly 0 0 = (hy * 2 ^ 64 + ly) * 2 ^ 128 := by unfold q4; omega
  have hX : q4 hx lx 0 0 = (hx * 2 ^ 64 + lx) * 2 ^ 128 := by unfold q4; omega
  have hXlo : 2 ^ 255 ≤ q4 hx lx 0 0 := by unfold q4; omega
  have hdm := Nat.div_add_mod (q4 hy ly 0 0) (2 ^ d)
  have hml := Nat.mod_lt (q4 hy ly 0 0) hpd
  have hN : Z.natAbs * 2 ^ 128 = q4 hx lx 0 0 * 2 ^ d + q4 hy ly 0 0 := by
    rw [hZ, Nat.add_mul, hX, hY, Nat.mul_right_comm]
  have hq4s := q4_lt p1 p2 p3 p4
  rw [broad_Sum.j1, hw, eu, Option.bind_some, if_pos (by simp), ep, Option.bind_some]
  have hN2 : Z.natAbs * 2 ^ 128 = (q4 s0 s1 s2 s3 + o * 2 ^ 256) * 2 ^ d + q4 hy ly 0 0 % 2 ^ d := by
    rw [hN, p6, u5, Nat.add_mul, Nat.mul_comm (q4 hy ly 0 0 / 2 ^ d)]
    omega
  simp only
  by_cases ho : o = 1
  · subst ho
    obtain ⟨t0, t1, t2, t3, et, v1, v2, v3, v4, v5⟩ := under_val (x := 1) p1 p2 p3 p4 k
    rw [if_pos (by rfl)]
    have et' : broad_wide_under.f (k + 4) (s0 : Int) (s1 : Int) (s2 : Int) (s3 : Int) 1 = _ := et
    rw [et', Option.bind_some]
    have ht0 : t0 < 2 ^ 63 := by
      have : q4 t0 t1 t2 t3 < 2 ^ 255 := by rw [v5]; omega
      unfold q4 at this
      omega
    simp only
    rw [or_top ht0, and_one p4]
    have hodd : q4 s0 s1 s2 s3 % 2 = s3 % 2 := by unfold q4; omega
    have hW : q4 (t0 + 2 ^ 63) t1 t2 t3 = q4 s0 s1 s2 s3 / 2 + 2 ^ 255 := by
      rw [q4_top]
      exact congrArg (· + 2 ^ 255) v5
    have hlast : ∀ rest : Bool, rest = decide (s3 % 2 * 2 ^ d + q4 hy ly 0 0 % 2 ^ d ≠ 0) → Sout (sy - 127) Z (broad_Sum.j2 (k + 4) rest 1 n (wrap64 (sx + 1)) 0 0 false ((t0 + 2 ^ 63 : Nat) : Int) (t1 : Int) (t2 : Int) (t3 : Int)) := by
      intro rest hr
      rw [show k + 4 = (k + 3) + 1 from rfl, broad_Sum.j2]
      refine fin_val (N := Z.natAbs) (l := s3 % 2 * 2 ^ d + q4 hy ly 0 0 % 2 ^ d) (u := 128) (v := d + 1) (cc := 0) v2 v3 v4 ?_ ?_ ?_ ?_ (by rw [Nat.pow_zero, Nat.mod_one]) (by omega) rfl hn hr ?_ (k + 1)
      · rw [hW]; omega
      · rw [hW]; omega
      · rw [hN2, hW, ← hodd]
        have e2 := Nat.div_add_mod (q4 s0 s1 s2 s3) 2
        have e3 : q4 s0 s1 s2 s3 + 1 * 2 ^ 256 = (q4 s0 s1 s2 s3 / 2 + 2 ^ 255) * 2 + q4 s0 s1 s2 s3 % 2 := by omega
        rw [e3, Nat.pow_succ]
        exact dbl_aux _ _ _ _
      · rw [Nat.add_zero, Nat.pow_succ]
        have : s3 % 2 * 2 ^ d ≤ 1 * 2 ^ d := Nat.mul_le_mul_right _ (by omega)
        omega
      · unfold wrap64; omega
    by_cases hr : q4 hy ly 0 0 % 2 ^ d = 0
    · rw [decide_eq_false (show ¬ q4 hy ly 0 0 % 2 ^ d ≠ 0 by omega), if_neg (by decide)]
      refine hlast _ ?_
      rw [hr, Nat.add_zero]
      by_cases z : s3 % 2 = 0
      · rw [z, Nat.zero_mul]
        rfl
      · have e1 : s3 % 2 = 1 := by omega
        rw [e1, decide_eq_true (show 1 * 2 ^ d ≠ 0 by omega)]
        rfl
    · rw [decide_eq_true hr, if_pos rfl]
      exact hlast _ (decide_eq_true (by omega)).symm
  · have ho0 : o = 0 := by omega
    subst ho0
    rw [if_neg (by decide), show k + 4 = (k + 3) + 1 from rfl, broad_Sum.j2]
    rw [Nat.zero_mul, Nat.add_zero] at hN2 p6
    refine fin_val (N := Z.natAbs) (l := q4 hy ly 0 0 % 2 ^ d) (u := 128) (v := d) (cc := 0) p2 p3 p4 ?_ hq4s hN2 (by rw [Nat.add_zero]; exact hml) (by rw [Nat.pow_zero, Nat.mod_one]) (by omega) rfl hn rfl ?_ (k + 1)
    · rw [p6]
      exact Nat.le_trans hXlo (Nat.le_add_right _ _)
    · omega
theorem j4_zero {a b c d : Nat} (h : q4 a b c d = 0) (rest neg : Bool) (s : Int) (k : Nat) : broad_Sum.j4 (k + 1) rest 1 neg s 0 0 false (a : Int) (b : Int) (c : Int) (d : Int) = some (0, false, 0, 0, 0, false) := by
  have ha : a = 0 := by unfold q4 at h; omega
  have hb : b = 0 := by unfold q4 at h; omega
  have hc : c = 0 := by unfold q4 at h; omega
  have hd : d = 0 := by unfold q4 at h; omega
  subst ha hb hc hd
  rw [broad_Sum.j4, if_pos (by decide)]
theorem j4_some {a b c d : Nat} (ha : a < 2 ^ 64) (hb : b < 2 ^ 64) (hc : c < 2 ^ 64) (hd : d < 2 ^ 64) (h : q4 a b c d ≠ 0) (neg : Bool) {s : Int} (hs : -1099511627776 ≤ s) (hs2 : s ≤ 1099511627776) :
    ∃ a' b' c' d' t : Nat, a' < 2 ^ 64 ∧ b' < 2 ^ 64 ∧ c' < 2 ^ 64 ∧ d' < 2 ^ 64 ∧ t ≤ 255 ∧ 2 ^ 255 ≤ q4 a' b' c' d' ∧ q4 a' b' c' d' < 2 ^ 256 ∧ q4 a' b' c' d' = q4 a b c d * 2 ^ t ∧
      ∀ (rest : Bool) (k : Nat), broad_Sum.j4 (k + 1) rest 1 neg s 0 0 false (a : Int) (b : Int) (c : Int) (d : Int) = broad_Sum.j5 k rest 1 neg (s - (t : Int)) 0 0 false (a' : Int) (b' : Int) (c' : Int) (d' : Int) := by
  obtain ⟨a', b', c', d', t, e, r1, r2, r3, r4, r5, r6, r7⟩ := raised_val ha hb hc hd h
  refine ⟨a', b', c', d', t, r1, r2, r3, r4, r5, by unfold q4; omega, q4_lt r1 r2 r3 r4, r7, fun rest k => ?_⟩
  have hz : ¬ ((a : Int) == 0 && ((b : Int) == 0 && ((c : Int) == 0 && ((d : Int) == 0)))) = true := by
    simp only [Bool.and_eq_true, beq_iff_eq]
    intro hh
    apply h
    unfold q4
    omega
  have hw : wrap64 (s - (t : Int)) = s - (t : Int) := by unfold wrap64; omega
  rw [broad_Sum.j4, if_neg hz, e, Option.bind_some]
  simp only
  rw [hw]
theorem near_N {A B C : Nat} {n m : Bool} (hnm : n ≠ m) {Z : Int} (hZ : Z = if n then -(A : Int) + (B : Int) else (A : Int) - (B : Int)) (hD : C + A * 2 ^ 128 = B * 2 ^ 128) (hC : C ≠ 0) : Z.natAbs * 2 ^ 128 = C ∧ (Z < 0 ↔ m = true) := by
  cases n
  · have hm : m = true := by cases m <;> simp_all
    rw [if_neg (by decide)] at hZ
    subst hm
    simp only [iff_true]
    omega
  · have hm : m = false := by cases m <;> simp_all
    rw [if_pos rfl] at hZ
    subst hm
    simp only [Bool.false_eq_true, iff_false]
    omega
theorem far_N {A B C : Nat} {n : Bool} {Z : Int} (hZ : Z = if n then -(A : Int) + (B : Int) else (A : Int) - (B : Int)) (hD : A * 2 ^ 128 = C + B * 2 ^ 128) : Z.natAbs * 2 ^ 128 = C ∧ (Z ≠ 0 → (Z < 0 ↔ n = true)) := by
  cases n
  · rw [if_neg (by decide)] at hZ
    simp only [Bool.false_eq_true, iff_false]
    omega
  · rw [if_pos rfl] at hZ
    simp only [iff_true]
    omega
theorem neg_eq {Z : Int} {m : Bool} (h : Z < 0 ↔ m = true) : m = decide (Z < 0) := by
  by_cases hz : Z < 0
  · rw [decide_eq_true hz]; exact h.1 hz
  · rw [decide_eq_false hz]; exact Bool.eq_false_iff.mpr fun hm => hz (h.2 hm)
theorem q4_high (x y : Nat) : q4 x y 0 0 = (x * 2 ^ 64 + y) * 2 ^ 128 := by
  unfold q4
  omega
theorem q4_half {x : Nat} (y : Nat) (h : 2 ^ 63 ≤ x) : 2 ^ 255 ≤ q4 x y 0 0 := by
  unfold q4
  omega
theorem lost_far {x y d : Nat} (h1 : x < 2 ^ 64) (h2 : y < 2 ^ 64) (hr : q4 x y 0 0 % 2 ^ d ≠ 0) : q4 x y 0 0 / 2 ^ d < 2 ^ 127 := by
  have hd128 : 128 < d := by
    refine Nat.lt_of_not_le fun hh => hr ?_
    rw [q4_high, show (2 : Nat) ^ 128 = 2 ^ d * 2 ^ (128 - d) from pow_split hh, Nat.mul_left_comm]
    exact Nat.mul_mod_right _ _
  rw [Nat.div_lt_iff_lt_mul (pow_pos d)]
  have : 2 ^ 256 ≤ 2 ^ 127 * 2 ^ d := by rw [← Nat.pow_add]; exact pow_le (by omega)
  exact Nat.lt_of_lt_of_le (q4_lt h1 h2 (show 0 < 2 ^ 64 by decide) (show 0 < 2 ^ 64 by decide)) this
theorem near_half {x y d : Nat} (h1 : x < 2 ^ 64) (h2 : y < 2 ^ 64) (hd0 : d ≠ 0) : q4 x y 0 0 / 2 ^ d < 2 ^ 255 := by
  rw [Nat.div_lt_iff_lt_mul (pow_pos d)]
  have : 2 ^ 256 ≤ 2 ^ 255 * 2 ^ d := by rw [← Nat.pow_add]; exact pow_le (by omega)
  exact Nat.lt_of_lt_of_le (q4_lt h1 h2 (show 0 < 2 ^ 64 by decide) (show 0 < 2 ^ 64 by decide)) this
theorem turn_val {hx lx hy ly : Nat} {s : Int} {n m : Bool} (hnm : n ≠ m) (h2 : hx < 2 ^ 64) (h3 : lx < 2 ^ 64) (u1 : hy < 2 ^ 64) (u2 : ly < 2 ^ 64) (b1 : -1099511627776 ≤ s) (b2 : s ≤ 1099511627776) (hlt : q4 hx lx 0 0 < q4 hy ly 0 0)
    {Z : Int} (hZ : Z = (if n then -((hx * 2 ^ 64 + lx : Nat) : Int) + ((hy * 2 ^ 64 + ly : Nat) : Int) else ((hx * 2 ^ 64 + lx : Nat) : Int) - ((hy * 2 ^ 64 + ly : Nat) : Int))) (k : Nat) :
    ∃ g0 g1 g2 g3 : Nat, broad_wide_less.f (hy : Int) (ly : Int) 0 0 (hx : Int) (lx : Int) 0 0 0 = some ((g0 : Int), (g1 : Int), (g2 : Int), (g3 : Int), 0) ∧
      Sout (s - 127) Z (broad_Sum.j4 (k + 3) false 1 m s 0 0 false (g0 : Int) (g1 : Int) (g2 : Int) (g3 : Int)) := by
  obtain ⟨g0, g1, g2, g3, o, eg, q1, q2, q3, q4', q5, q6⟩ := less_val u1 u2 (show 0 < 2 ^ 64 by decide) (show 0 < 2 ^ 64 by decide) h2 h3 (show 0 < 2 ^ 64 by decide) (show 0 < 2 ^ 64 by decide) (show 0 ≤ 1 by decide)
  have hq4g := q4_lt q1 q2 q3 q4'
  have ho : o = 0 := by omega
  subst ho
  have h0 : ((0 : Nat) : Int) = 0 := rfl
  rw [h0] at eg
  refine ⟨g0, g1, g2, g3, eg, ?_⟩
  rw [Nat.zero_mul, Nat.add_zero, Nat.add_zero] at q6
  have hD : q4 g0 g1 g2 g3 + q4 hx lx 0 0 = q4 hy ly 0 0 := q6
  have hne : q4 g0 g1 g2 g3 ≠ 0 := fun h => by
    rw [h, Nat.zero_add] at hD
    exact absurd hD (Nat.ne_of_lt hlt)
  obtain ⟨a', b', c', d', t, r1, r2, r3, r4, r5, r6, r7, r8, r9⟩ := j4_some q1 q2 q3 q4' hne m b1 b2
  rw [show k + 3 = (k + 2) + 1 from rfl, r9]
  rw [q4_high, q4_high] at hD
  have hN := near_N hnm hZ hD hne
  refine fin_val (N := Z.natAbs) (l := 0) (u := 128 + t) (v := 0) (cc := 0) r2 r3 r4 r6 r7 ?_ (by decide) (by rw [Nat.pow_zero, Nat.mod_one]) (by decide) rfl (neg_eq hN.2) (by decide) ?_ k
  · rw [Nat.pow_add, ← Nat.mul_assoc, hN.1, r8, Nat.pow_zero, Nat.mul_one, Nat.add_zero]
  · omega
theorem less_left {hx lx hy ly d r e0 e1 e2 e3 : Nat} {sx u0 : Int} {n : Bool} (h1 : 2 ^ 63 ≤ hx) (h4 : hy < 2 ^ 64) (h5 : ly < 2 ^ 64) (b1 : -1099511627776 ≤ sx) (b2 : sx ≤ 1099511627776) (hu : sx = u0 + 127 + (d : Int))
    (p1 : e0 < 2 ^ 64) (p2 : e1 < 2 ^ 64) (p3 : e2 < 2 ^ 64) (p4 : e3 < 2 ^ 64) (hr1 : r ≤ 1) (hr : r = 1 ↔ q4 hy ly 0 0 % 2 ^ d ≠ 0) (p6 : q4 e0 e1 e2 e3 + q4 hy ly 0 0 / 2 ^ d + r = q4 hx lx 0 0)
    {Z : Int} (hZ : Z = (if n then -(((hx * 2 ^ 64 + lx) * 2 ^ d : Nat) : Int) + ((hy * 2 ^ 64 + ly : Nat) : Int) else (((hx * 2 ^ 64 + lx) * 2 ^ d : Nat) : Int) - ((hy * 2 ^ 64 + ly : Nat) : Int))) (k : Nat) :
    Sout u0 Z (broad_Sum.j4 (k + 3) (decide (q4 hy ly 0 0 % 2 ^ d ≠ 0)) 1 n sx 0 0 false (e0 : Int) (e1 : Int) (e2 : Int) (e3 : Int)) := by
  have hpd := pow_pos d
  have hXlo := q4_half lx h1
  have hdm := Nat.div_add_mod (q4 hy ly 0 0) (2 ^ d)
  have hml := Nat.mod_lt (q4 hy ly 0 0) hpd
  have hl0 : ∃ l0, l0 + q4 hy ly 0 0 % 2 ^ d = r * 2 ^ d ∧ l0 < 2 ^ d ∧ (l0 = 0 ↔ r = 0) := by
    by_cases hr0 : r = 0
    · subst hr0
      have : q4 hy ly 0 0 % 2 ^ d = 0 := Classical.byContradiction fun h => by have := hr.2 h; omega
      exact ⟨0, by rw [this, Nat.zero_mul], by omega, by simp⟩
    · have hr1' : r = 1 := by omega
      subst hr1'
      have := hr.1 rfl
      exact ⟨2 ^ d - q4 hy ly 0 0 % 2 ^ d, by omega, by omega, by omega⟩
  obtain ⟨l0, hl0, hl1, hl2⟩ := hl0
  have hNX : q4 hx lx 0 0 * 2 ^ d = q4 e0 e1 e2 e3 * 2 ^ d + l0 + q4 hy ly 0 0 := by
    rw [← p6, Nat.add_mul, Nat.add_mul, ← hl0, Nat.mul_comm (q4 hy ly 0 0 / 2 ^ d)]
    omega
  rw [q4_high hx, q4_high hy, Nat.mul_right_comm] at hNX
  have hN := far_N hZ hNX
  have hfar := fun h => lost_far (d := d) h4 h5 h
  by_cases hE : q4 e0 e1 e2 e3 = 0
  ·
    have hr0 : r = 0 := by
      refine Classical.byContradiction fun h => ?_
      have := hfar (hr.1 (by omega))
      omega
    have hl00 := hl2.2 hr0
    refine .inl ⟨?_, ?_⟩
    · have h3 := hN.1
      rw [hE, hl00, Nat.zero_mul] at h3
      omega
    · rw [show k + 3 = (k + 2) + 1 from rfl, j4_zero hE]
  · obtain ⟨a', b', c', d', t, r1, r2, r3, r4, r5, r6, r7, r8, r9⟩ := j4_some p1 p2 p3 p4 hE n b1 b2
    rw [show k + 3 = (k + 2) + 1 from rfl, r9]
    have hZ0 : Z ≠ 0 := by
      intro hz
      have h3 := hN.1
      have := Nat.mul_ne_zero hE (show 2 ^ d ≠ 0 by omega)
      rw [hz, Int.natAbs_zero, Nat.zero_mul] at h3
      omega
    have ht1 : r ≠ 0 → t ≤ 1 := by
      intro hr0
      have h3 := hfar (hr.1 (by omega))
      refine Nat.le_of_not_lt fun ht => ?_
      have h6 : 2 ^ 2 ≤ 2 ^ t := pow_le ht
      have h7 : 2 ^ 254 ≤ q4 e0 e1 e2 e3 := by omega
      have h8 := Nat.mul_le_mul h7 h6
      omega
    have heq : Z.natAbs * 2 ^ (128 + t) = q4 a' b' c' d' * 2 ^ d + l0 * 2 ^ t := by
      rw [Nat.pow_add, ← Nat.mul_assoc, hN.1, Nat.add_mul, r8, Nat.mul_right_comm]
    have hneg := neg_eq (hN.2 hZ0)
    have hpt := pow_pos t
    have hrest : decide (q4 hy ly 0 0 % 2 ^ d ≠ 0) = decide (l0 * 2 ^ t ≠ 0) := by
      refine decide_eq_decide.mpr ⟨fun h => Nat.mul_ne_zero (fun h' => ?_) (by omega), fun h => hr.1 ?_⟩
      · have := hr.2 h
        have := hl2.1 h'
        omega
      · refine Classical.byContradiction fun h' => h ?_
        rw [hl2.2 (by omega), Nat.zero_mul]
    by_cases hr0 : r = 0
    · have hl00 := hl2.2 hr0
      refine fin_val (N := Z.natAbs) (l := l0 * 2 ^ t) (u := 128 + t) (v := d) (cc := 0) r2 r3 r4 r6 r7 heq ?_ (by rw [Nat.pow_zero, Nat.mod_one]) (by decide) rfl hneg hrest ?_ k
      · rw [hl00, Nat.zero_mul]
        exact pow_pos _
      · omega
    · have := ht1 hr0
      refine fin_val (N := Z.natAbs) (l := l0 * 2 ^ t) (u := 128 + t) (v := d) (cc := t) r2 r3 r4 r6 r7 heq ?_ (by rw [r8]; exact Nat.mul_mod_left _ _) (by omega) rfl hneg hrest ?_ k
      · rw [Nat.pow_add]
        exact Nat.mul_lt_mul_of_pos_right hl1 hpt
      · omega
theorem diff_val {hx lx hy ly : Nat} {sx sy : Int} {n m : Bool} (hnm : n ≠ m) (h1 : 2 ^ 63 ≤ hx) (h2 : hx < 2 ^ 64) (h3 : lx < 2 ^ 64) (h4 : hy < 2 ^ 64) (h5 : ly < 2 ^ 64) (b1 : -1099511627776 ≤ sx) (b2 : sx ≤ 1099511627776) (b3 : -1099511627776 ≤ sy) (hle : sy ≤ sx) (k : Nat) :
    ∀ Z : Int, Z = (if n then -(((hx * 2 ^ 64 + lx) * 2 ^ (sx - sy).toNat : Nat) : Int) + ((hy * 2 ^ 64 + ly : Nat) : Int) else (((hx * 2 ^ 64 + lx) * 2 ^ (sx - sy).toNat : Nat) : Int) - ((hy * 2 ^ 64 + ly : Nat) : Int)) →
    Sout (sy - 127) Z (broad_Sum.j1 (k + 5) 1 n sx (hx : Int) (lx : Int) false 1 m sy (hy : Int) (ly : Int) false) := by
  intro Z hZ
  generalize hd : (sx - sy).toNat = d at hZ
  have hw : wrap64 (sx - sy) = (d : Int) := by unfold wrap64; omega
  obtain ⟨b0, bb1, bb2, bb3, eu, u1, u2, u3, u4, u5⟩ := under_val (x := d) h4 h5 (show 0 < 2 ^ 64 by decide) (show 0 < 2 ^ 64 by decide) k
  have h0 : ((0 : Nat) : Int) = 0 := rfl
  rw [h0] at eu
  have hXlo := q4_half lx h1
  have hbeq : ¬ ((n == m) = true) := by simpa using hnm
  rw [broad_Sum.j1, hw, eu, Option.bind_some, if_neg hbeq]
  simp only
  have step : ∀ (r : Nat), r ≤ 1 → (r = 1 ↔ q4 hy ly 0 0 % 2 ^ d ≠ 0) →
      Sout (sy - 127) Z (broad_Sum.j3 (k + 4) (decide (q4 hy ly 0 0 % 2 ^ d ≠ 0)) (r : Int) 1 m sy (hy : Int) (ly : Int) false (hx : Int) (lx : Int) 0 0 (b0 : Int) (bb1 : Int) (bb2 : Int) (bb3 : Int) 1 n sx 0 0 false) := by
    intro r hr1 hr
    obtain ⟨e0, e1, e2, e3, p, ep, p1, p2, p3, p4, p5, p6⟩ := less_val h2 h3 (show 0 < 2 ^ 64 by decide) (show 0 < 2 ^ 64 by decide) u1 u2 u3 u4 hr1
    rw [h0] at ep
    rw [show k + 4 = (k + 3) + 1 from rfl, broad_Sum.j3, ep, Option.bind_some]
    simp only
    have hq4e := q4_lt p1 p2 p3 p4
    rw [u5] at p6
    by_cases hp : p = 1
    · subst hp
      have hd0 : d = 0 := by
        refine Classical.byContradiction fun hd0 => ?_
        have := near_half h4 h5 hd0
        omega
      subst hd0
      have hr0 : r = 0 := by
        refine Classical.byContradiction fun h => ?_
        have := hr.1 (by omega)
        rw [Nat.pow_zero, Nat.mod_one] at this
        exact this rfl
      subst hr0
      have hss : sy = sx := by omega
      rw [Nat.pow_zero, Nat.div_one] at p6 u5

      have hb0 : b0 = hy ∧ bb1 = ly ∧ bb2 = 0 ∧ bb3 = 0 := by
        unfold q4 at u5
        omega
      obtain ⟨rfl, rfl, rfl, rfl⟩ := hb0
      rw [Nat.pow_zero, Nat.mul_one] at hZ
      obtain ⟨g0, g1, g2, g3, eg, hS⟩ := turn_val hnm h2 h3 h4 h5 b1 b2 (show q4 hx lx 0 0 < q4 b0 bb1 0 0 by omega) hZ k
      rw [if_pos (by rfl)]
      rw [h0, eg, Option.bind_some]
      simp only
      rw [hss, Nat.pow_zero, Nat.mod_one]
      exact hS
    · have hp0 : p = 0 := by omega
      subst hp0
      rw [if_neg (by decide)]
      rw [Nat.zero_mul, Nat.add_zero] at p6
      exact less_left h1 h4 h5 b1 b2 (by omega) p1 p2 p3 p4 hr1 hr p6 hZ k
  by_cases hr : q4 hy ly 0 0 % 2 ^ d = 0
  · have e := step 0 (by decide) ⟨fun h => by omega, fun h => absurd hr h⟩
    rw [if_neg (by rw [decide_eq_false (show ¬ q4 hy ly 0 0 % 2 ^ d ≠ 0 by omega)]; decide)]
    exact e
  · have e := step 1 (by decide) ⟨fun _ => hr, fun _ => rfl⟩
    rw [if_pos (by rw [decide_eq_true hr])]
    exact e
end Go.Proofs.Ytnlbfomlfhigcaa.M
namespace Go.Proofs.Ytnlbfomlfhigcaa.M
open Go.RowKit Go.Proofs.YtnlbfomlfhigcaaW.PrintWords Go.Proofs.YtnlbfomlfhigcaaW.PrintLast Go.Proofs.YtnlbfomlfhigcaaW.PrintMore Go.Proofs.Ytnlbfomlfhigcaa.Q
def sv (n : Bool) (x : Nat) : Int := if n then -(x : Int) else (x : Int)
def vl (u : Int) (n : Bool) (s : Int) (F : Nat) : Int := sv n (F * 2 ^ (s - 127 - u).toNat)
theorem sv_mul (n : Bool) (x y : Nat) : sv n (x * y) = sv n x * (y : Int) := by
  unfold sv
  cases n
  · rw [if_neg (by decide), if_neg (by decide), Int.natCast_mul]
  · rw [if_pos rfl, if_pos rfl, Int.natCast_mul, Int.neg_mul]
theorem mul_pow_neg {Z : Int} (c : Nat) : (Z * ((2 ^ c : Nat) : Int) < 0 ↔ Z < 0) ∧ (Z * ((2 ^ c : Nat) : Int) = 0 ↔ Z = 0) := by
  have hp := pow_pos c
  have hp' : (0 : Int) < ((2 ^ c : Nat) : Int) := by omega
  generalize ((2 ^ c : Nat) : Int) = p at *
  refine ⟨⟨fun h => ?_, fun h => Int.mul_neg_of_neg_of_pos h hp'⟩, ⟨fun h => ?_, fun h => by rw [h, Int.zero_mul]⟩⟩
  · refine Int.not_le.1 fun h' => ?_
    have := Int.mul_nonneg h' (Int.le_of_lt hp')
    omega
  · rcases Int.mul_eq_zero.1 h with h | h
    · exact h
    · omega
theorem Sout.shift {u Z : Int} {r : Option (Int × Bool × Int × Int × Int × Bool)} (h : Sout u Z r) (c : Nat) : Sout (u - (c : Int)) (Z * ((2 ^ c : Nat) : Int)) r := by
  rcases h with ⟨h1, h2⟩ | ⟨j, h1, h2⟩
  · exact .inl ⟨(mul_pow_neg c).2.2 h1, h2⟩
  · have e : (Z * ((2 ^ c : Nat) : Int)).natAbs = Z.natAbs * 2 ^ c := by rw [Int.natAbs_mul, Int.natAbs_natCast]
    refine .inr ⟨j + c, by rw [e]; exact h1.mul c, ?_⟩
    rw [e, tF_mul, tB_mul, h2]
    have e1 : u - (c : Int) + ((j + c : Nat) : Int) = u + (j : Int) := by omega
    have e2 : decide (Z * ((2 ^ c : Nat) : Int) < 0) = decide (Z < 0) := decide_eq_decide.mpr (mul_pow_neg c).1
    rw [e1, e2]
theorem vl_shift {u s : Int} {n : Bool} {F : Nat} (hu : u ≤ s - 127) (c : Nat) : vl (u - (c : Int)) n s F = vl u n s F * ((2 ^ c : Nat) : Int) := by
  unfold vl
  rw [← sv_mul, Nat.mul_assoc, ← Nat.pow_add]
  congr 3
  omega
theorem sv_same (n : Bool) (A B : Nat) : (sv n A + sv n B).natAbs = A + B := by
  unfold sv
  cases n
  · rw [if_neg (by decide), if_neg (by decide)]; omega
  · rw [if_pos rfl, if_pos rfl]; omega
theorem sv_same_neg {n : Bool} (A B : Nat) (h : A ≠ 0) : n = decide (sv n A + sv n B < 0) := by
  unfold sv
  cases n
  · rw [if_neg (by decide), if_neg (by decide)]; exact (decide_eq_false (by omega)).symm
  · rw [if_pos rfl, if_pos rfl]; exact (decide_eq_true (by omega)).symm
theorem sv_diff {n m : Bool} (h : n ≠ m) (A B : Nat) : sv n A + sv m B = if n then -(A : Int) + (B : Int) else (A : Int) - (B : Int) := by
  unfold sv
  cases n
  · have hm : m = true := by cases m <;> simp_all
    subst hm
    rw [if_neg (by decide), if_pos rfl, if_neg (by decide)]
    omega
  · have hm : m = false := by cases m <;> simp_all
    subst hm
    rw [if_pos rfl, if_neg (by decide), if_pos rfl]
theorem sum_ord {hx lx hy ly : Nat} {sx sy : Int} {n m : Bool} (h1 : 2 ^ 63 ≤ hx) (h2 : hx < 2 ^ 64) (h3 : lx < 2 ^ 64) (_ : 2 ^ 63 ≤ hy) (h4 : hy < 2 ^ 64) (h5 : ly < 2 ^ 64) (b1 : -1099511627776 ≤ sx) (b2 : sx ≤ 1099511627776) (b3 : -1099511627776 ≤ sy) (hle : sy ≤ sx) (k : Nat) :
    Sout (sy - 127) (vl (sy - 127) n sx (hx * 2 ^ 64 + lx) + vl (sy - 127) m sy (hy * 2 ^ 64 + ly)) (broad_Sum.j1 (k + 5) 1 n sx (hx : Int) (lx : Int) false 1 m sy (hy : Int) (ly : Int) false) := by
  have e1 : (sx - 127 - (sy - 127)).toNat = (sx - sy).toNat := by omega
  have e2 : (sy - 127 - (sy - 127)).toNat = 0 := by omega
  have hp := pow_pos (sx - sy).toNat
  have hX : (hx * 2 ^ 64 + lx) * 2 ^ (sx - sy).toNat ≠ 0 := Nat.mul_ne_zero (by omega) (by omega)
  unfold vl
  rw [e1, e2, Nat.pow_zero, Nat.mul_one]
  by_cases hnm : n = m
  · subst hnm
    exact same_val h1 h2 h3 h4 h5 b1 b2 b3 hle k _ (sv_same _ _ _) (sv_same_neg _ _ hX)
  · exact diff_val hnm h1 h2 h3 h4 h5 b1 b2 b3 hle k _ (sv_diff hnm _ _)
theorem sum_spec {hx lx hy ly : Nat} {sx sy : Int} {n m : Bool} (h1 : 2 ^ 63 ≤ hx) (h2 : hx < 2 ^ 64) (h3 : lx < 2 ^ 64) (h1y : 2 ^ 63 ≤ hy) (h4 : hy < 2 ^ 64) (h5 : ly < 2 ^ 64) (b1 : -1099511627776 ≤ sx) (b2 : sx ≤ 1099511627776) (b3 : -1099511627776 ≤ sy) (b4 : sy ≤ 1099511627776)
    {u : Int} (hu : u ≤ sx - 127) (hu' : u ≤ sy - 127) (k : Nat) :
    Sout u (vl u n sx (hx * 2 ^ 64 + lx) + vl u m sy (hy * 2 ^ 64 + ly)) (broad_Sum.f (k + 6) 1 n sx (hx : Int) (lx : Int) false 1 m sy (hy : Int) (ly : Int) false) := by
  unfold broad_Sum.f
  rw [if_neg (by decide), show k + 6 = (k + 5) + 1 from rfl, broad_Sum.j0, if_neg (by decide), if_neg (by decide), if_neg (by decide)]
  by_cases hlt : sx < sy
  · rw [if_pos hlt]
    have h := (sum_ord (n := m) (m := n) h1y h4 h5 h1 h2 h3 b3 b4 b1 (Int.le_of_lt hlt) k).shift (sx - 127 - u).toNat
    have e : sx - 127 - ((sx - 127 - u).toNat : Int) = u := by omega
    rw [Int.add_mul, ← vl_shift (by omega), ← vl_shift (by omega), e, Int.add_comm] at h
    exact h
  · rw [if_neg hlt]
    have h := (sum_ord (n := n) (m := m) h1 h2 h3 h1y h4 h5 b1 b2 b3 (by omega) k).shift (sy - 127 - u).toNat
    have e : sy - 127 - ((sy - 127 - u).toNat : Int) = u := by omega
    rw [Int.add_mul, ← vl_shift (by omega), ← vl_shift (by omega), e] at h
    exact h
end Go.Proofs.Ytnlbfomlfhigcaa.M
namespace Go.Proofs.Ytnlbfomlfhigcaa.M
open Go.RowKit Go.Proofs.YtnlbfomlfhigcaaW.PrintWords Go.Proofs.YtnlbfomlfhigcaaW.PrintLast Go.Proofs.YtnlbfomlfhigcaaW.PrintMore Go.Proofs.Ytnlbfomlfhigcaa.Q
def hiY (Y : Nat) : Int := ((Y / 2 ^ 72 / 2 ^ 64 : Nat) : Int)
def loY (Y : Nat) : Int := ((Y / 2 ^ 72 % 2 ^ 64 : Nat) : Int)
def reY (b : Bool) (Y : Nat) : Bool := b || decide (Y % 2 ^ 72 ≠ 0)
set_option maxRecDepth 20000 in
theorem under_Y {Y m c : Nat} (b : Bool) (hY : Y < 2 ^ 200) (hm : m = 1 ∨ m = 2) (hc : c < 2 ^ m) (hd : Y % 2 ^ m = 0) :
    round_under.f (hiY Y) (loY Y) (c : Int) (m : Int) (reY b Y) = some (hiY (Y / 2 ^ m + c * 2 ^ (200 - m)), loY (Y / 2 ^ m + c * 2 ^ (200 - m)), reY b (Y / 2 ^ m + c * 2 ^ (200 - m))) := by
  unfold round_under.f hiY loY
  have hW : Y / 2 ^ 72 < 2 ^ 128 := by omega
  have hWd : Y / 2 ^ 72 / 2 ^ 64 * 2 ^ 64 + Y / 2 ^ 72 % 2 ^ 64 = Y / 2 ^ 72 := by rw [Nat.mul_comm]; exact Nat.div_add_mod _ _
  rw [Shr_tw (j := m) (by omega) (Nat.mod_lt _ (by decide)) (by omega), hWd]
  simp only [Option.bind_some]
  have hw : wrap64 (64 - (m : Int)) = ((64 - m : Nat) : Int) := by unfold wrap64; omega
  rw [hw, if_pos (by omega), shl_nat c (64 - m) (by omega)]
  have hcs : c * 2 ^ (64 - m) % 2 ^ 64 = c * 2 ^ (64 - m) := Nat.mod_eq_of_lt (by rcases hm with rfl | rfl <;> simp only [Nat.reduceSub] <;> omega)
  have hor : Go.bits .or .u64 ((Y / 2 ^ 72 / 2 ^ m / 2 ^ 64 : Nat) : Int) ((c * 2 ^ (64 - m) : Nat) : Int) = ((c * 2 ^ (64 - m) + Y / 2 ^ 72 / 2 ^ m / 2 ^ 64 : Nat) : Int) := by
    have h1 : Y / 2 ^ 72 / 2 ^ m / 2 ^ 64 < 2 ^ (64 - m) := by rcases hm with rfl | rfl <;> simp only [Nat.reduceSub] <;> omega
    have h2 : c * 2 ^ (64 - m) < 2 ^ 64 := by rcases hm with rfl | rfl <;> simp only [Nat.reduceSub] <;> omega
    have h3 := or_add (c * 2 ^ (64 - m)) (Y / 2 ^ 72 / 2 ^ m / 2 ^ 64) (64 - m) h2 h1 (by omega) (Nat.mul_mod_left _ _)
    rw [or_nat _ _ h2 (by have : 2 ^ (64 - m) ≤ 2 ^ 64 := pow_le (by omega); omega)] at h3
    rw [or_nat _ _ (by have : 2 ^ (64 - m) ≤ 2 ^ 64 := pow_le (by omega); omega) h2, Nat.or_comm, h3]
  rw [hcs, hor]
  have hC : c * 2 ^ (200 - m) = c * 2 ^ (64 - m) * 2 ^ 64 * 2 ^ 72 := by rw [Nat.mul_assoc, Nat.mul_assoc, ← Nat.pow_add, ← Nat.pow_add]; exact congrArg (fun z => c * 2 ^ z) (by omega)
  rw [hC]
  generalize c * 2 ^ (64 - m) = C at *
  have a1 : C + Y / 2 ^ 72 / 2 ^ m / 2 ^ 64 = (Y / 2 ^ m + C * 2 ^ 64 * 2 ^ 72) / 2 ^ 72 / 2 ^ 64 := by rcases hm with rfl | rfl <;> omega
  have a2 : Y / 2 ^ 72 / 2 ^ m % 2 ^ 64 = (Y / 2 ^ m + C * 2 ^ 64 * 2 ^ 72) / 2 ^ 72 % 2 ^ 64 := by rcases hm with rfl | rfl <;> omega
  have a3 : ((Y % 2 ^ 72 ≠ 0) ∨ (Y / 2 ^ 72 % 2 ^ m ≠ 0)) ↔ (Y / 2 ^ m + C * 2 ^ 64 * 2 ^ 72) % 2 ^ 72 ≠ 0 := by rcases hm with rfl | rfl <;> omega
  rw [a1, a2]
  unfold reY
  by_cases c1 : Y % 2 ^ 72 ≠ 0
  · rw [decide_eq_true c1, decide_eq_true (a3.1 (.inl c1)), Bool.or_true, if_pos rfl]
  · rw [decide_eq_false c1]
    by_cases c2 : Y / 2 ^ 72 % 2 ^ m ≠ 0
    · rw [decide_eq_true c2, decide_eq_true (a3.1 (.inr c2))]
      cases b <;> simp
    · have : ¬ (Y / 2 ^ m + C * 2 ^ 64 * 2 ^ 72) % 2 ^ 72 ≠ 0 := fun h => (a3.2 h).elim c1 c2
      rw [decide_eq_false c2, decide_eq_false this]
      cases b <;> simp
def lft (n Y : Nat) (b : Bool) : Nat :=
  if 2 ^ (201 - n) < 2 * (Y % 2 ^ (201 - n)) + b.toNat then 3 else if 2 ^ (201 - n) = 2 * (Y % 2 ^ (201 - n)) + b.toNat then 2 else if 0 < 2 * (Y % 2 ^ (201 - n)) + b.toNat then 1 else 0
theorem left_val (k : Nat) (x : Nat) (b : Bool) : round_left.f (k + 1) (x : Int) b = some (((if 9223372036854775808 < x ∨ (x = 9223372036854775808 ∧ b = true) then 3 else if x = 9223372036854775808 then 2 else if 0 < x ∨ b = true then 1 else 0 : Nat) : Nat) : Int) := by
  unfold round_left.f
  simp only [round_left.j0]
  have i1 : ((x : Int) > 9223372036854775808) ↔ 9223372036854775808 < x := by omega
  have i2 : ((x : Int) = 9223372036854775808) ↔ x = 9223372036854775808 := by omega
  have i3 : ((x : Int) > 0) ↔ 0 < x := by omega
  simp only [i1, i2, i3]
  by_cases c1 : 9223372036854775808 < x
  · simp [c1]
  · by_cases c2 : x = 9223372036854775808
    · subst c2
      cases b <;> simp
    · by_cases c3 : 0 < x <;> cases b <;> simp [c1, c2, c3]
theorem j3_Y {n Y : Nat} (hn : Wd n) (b : Bool) (hY : Y < 2 ^ 200) (k : Nat) :
    round_Cut.j3 (k + 2) (n : Int) (reY b Y) (hiY Y) (loY Y) = some (((Y / 2 ^ (201 - n) : Nat) : Int), ((lft n Y b : Nat) : Int), none) := by
  have hb := hn.bd
  simp only [round_Cut.j3]
  have hw1 : wrap64 (65 - (n : Int)) = ((65 - n : Nat) : Int) := by unfold wrap64; omega
  have hw2 : wrap64 ((n : Int) - 1) = ((n - 1 : Nat) : Int) := by unfold wrap64; omega
  rw [hw1, hw2, if_pos (by omega)]
  unfold hiY loY
  have hW : Y / 2 ^ 72 < 2 ^ 128 := by omega
  have hWd : Y / 2 ^ 72 / 2 ^ 64 * 2 ^ 64 + Y / 2 ^ 72 % 2 ^ 64 = Y / 2 ^ 72 := by rw [Nat.mul_comm]; exact Nat.div_add_mod _ _
  obtain ⟨bb, hS⟩ := Shl_tw (h := Y / 2 ^ 72 / 2 ^ 64) (l := Y / 2 ^ 72 % 2 ^ 64) (j := n - 1) (by omega) (Nat.mod_lt _ (by decide)) (by omega)
  rw [hS, hWd]
  simp only [Option.bind_some]
  rw [shr_nat _ (65 - n) (by omega)]
  have a1 : Y / 2 ^ 72 / 2 ^ 64 / 2 ^ (65 - n) = Y / 2 ^ (201 - n) := by
    rw [Nat.div_div_eq_div_mul, Nat.div_div_eq_div_mul, ← Nat.pow_add, ← Nat.pow_add]
    exact congrArg (fun z => Y / 2 ^ z) (by omega)
  rw [a1]
  have hbb := toNat_le b
  have hbt : b.toNat = 1 ↔ b = true := by cases b <;> simp
  have key : ∀ r : Bool, (r = true ↔ (b = true ∨ Y % 2 ^ 72 ≠ 0 ∨ Y / 2 ^ 72 * 2 ^ (n - 1) % 2 ^ 64 ≠ 0)) →
      (if 9223372036854775808 < Y / 2 ^ 72 * 2 ^ (n - 1) % 2 ^ 128 / 2 ^ 64 ∨ (Y / 2 ^ 72 * 2 ^ (n - 1) % 2 ^ 128 / 2 ^ 64 = 9223372036854775808 ∧ r = true) then 3 else if Y / 2 ^ 72 * 2 ^ (n - 1) % 2 ^ 128 / 2 ^ 64 = 9223372036854775808 then 2 else if 0 < Y / 2 ^ 72 * 2 ^ (n - 1) % 2 ^ 128 / 2 ^ 64 ∨ r = true then 1 else 0 : Nat) = lft n Y b := by
    intro r hr
    unfold lft
    simp only [hr, ← hbt]
    generalize b.toNat = t at *
    have b1 : (9223372036854775808 < Y / 2 ^ 72 * 2 ^ (n - 1) % 2 ^ 128 / 2 ^ 64 ∨ (Y / 2 ^ 72 * 2 ^ (n - 1) % 2 ^ 128 / 2 ^ 64 = 9223372036854775808 ∧ (t = 1 ∨ Y % 2 ^ 72 ≠ 0 ∨ Y / 2 ^ 72 * 2 ^ (n - 1) % 2 ^ 64 ≠ 0))) ↔ 2 ^ (201 - n) < 2 * (Y % 2 ^ (201 - n)) + t := by
      rcases hn with rfl | rfl | rfl | rfl <;> simp only [Nat.reduceSub] <;> omega
    have b2 : ¬ (2 ^ (201 - n) < 2 * (Y % 2 ^ (201 - n)) + t) → (Y / 2 ^ 72 * 2 ^ (n - 1) % 2 ^ 128 / 2 ^ 64 = 9223372036854775808 ↔ 2 ^ (201 - n) = 2 * (Y % 2 ^ (201 - n)) + t) := by
      rcases hn with rfl | rfl | rfl | rfl <;> simp only [Nat.reduceSub] <;> omega
    have b3 : (0 < Y / 2 ^ 72 * 2 ^ (n - 1) % 2 ^ 128 / 2 ^ 64 ∨ (t = 1 ∨ Y % 2 ^ 72 ≠ 0 ∨ Y / 2 ^ 72 * 2 ^ (n - 1) % 2 ^ 64 ≠ 0)) ↔ 0 < 2 * (Y % 2 ^ (201 - n)) + t := by
      rcases hn with rfl | rfl | rfl | rfl <;> simp only [Nat.reduceSub] <;> omega
    by_cases c1 : 2 ^ (201 - n) < 2 * (Y % 2 ^ (201 - n)) + t
    · rw [if_pos (b1.2 c1), if_pos c1]
    · rw [if_neg (fun h => c1 (b1.1 h)), if_neg c1]
      by_cases c2 : 2 ^ (201 - n) = 2 * (Y % 2 ^ (201 - n)) + t
      · rw [if_pos ((b2 c1).2 c2), if_pos c2]
      · rw [if_neg (fun h => c2 ((b2 c1).1 h)), if_neg c2]
        by_cases c3 : 0 < 2 * (Y % 2 ^ (201 - n)) + t
        · rw [if_pos (b3.2 c3), if_pos c3]
        · rw [if_neg (fun h => c3 (b3.1 h)), if_neg c3]
  unfold reY
  by_cases d : Y / 2 ^ 72 * 2 ^ (n - 1) % 2 ^ 64 = 0
  · rw [if_pos (by omega), left_val, key (b || decide (Y % 2 ^ 72 ≠ 0)) (by cases b <;> simp [d])]
    rfl
  · rw [if_neg (by omega), left_val, key true (by simp [d])]
    rfl
def yo (t i : Nat) : Nat := t * 2 ^ (70 - i) + (2 ^ 200 - 2 ^ (200 - i))
def yz (t i : Nat) : Nat := t * 2 ^ (70 - i) + 2 ^ (199 - i)
theorem yo_step {t i : Nat} (ht : t < 2 ^ 129) (hi : i < 70) : yo t i < 2 ^ 200 ∧ yo t i % 2 ^ 1 = 0 ∧ yo t i / 2 ^ 1 + 1 * 2 ^ (200 - 1) = yo t (i + 1) := by
  unfold yo
  have e1 : 2 ^ (70 - i) = 2 * 2 ^ (70 - (i + 1)) := by rw [← Nat.pow_succ']; exact congrArg (2 ^ ·) (by omega)
  have e2 : 2 ^ (200 - i) = 2 * 2 ^ (200 - (i + 1)) := by rw [← Nat.pow_succ']; exact congrArg (2 ^ ·) (by omega)
  have e3 : 2 ^ (200 - i) = 2 ^ 130 * 2 ^ (70 - i) := by rw [← Nat.pow_add]; exact congrArg (2 ^ ·) (by omega)
  have e4 : t * 2 ^ (70 - i) < 2 ^ 129 * 2 ^ (70 - i) := Nat.mul_lt_mul_of_pos_right ht (pow_pos _)
  have e5 : 2 ^ (200 - i) ≤ 2 ^ 200 := pow_le (by omega)
  have hA : t * 2 ^ (70 - i) = 2 * (t * 2 ^ (70 - (i + 1))) := by rw [e1]; exact Nat.mul_left_comm _ _ _
  have e7 : 2 ^ 130 * 2 ^ (70 - i) = 2 * (2 ^ 129 * 2 ^ (70 - i)) := by rw [← Nat.mul_assoc, ← Nat.pow_succ']
  generalize t * 2 ^ (70 - i) = v1 at *
  generalize t * 2 ^ (70 - (i + 1)) = v2 at *
  generalize 2 ^ (200 - (i + 1)) = u at *
  generalize 2 ^ (200 - i) = u2 at *
  generalize 2 ^ (70 - i) = u3 at *
  clear e1
  omega
theorem yz_step {t i : Nat} (ht : t < 2 ^ 129) (hi : i < 70) : yz t i < 2 ^ 200 ∧ yz t i % 2 ^ 1 = 0 ∧ yz t i / 2 ^ 1 + 0 * 2 ^ (200 - 1) = yz t (i + 1) := by
  unfold yz
  have e1 : 2 ^ (70 - i) = 2 * 2 ^ (70 - (i + 1)) := by rw [← Nat.pow_succ']; exact congrArg (2 ^ ·) (by omega)
  have e2 : 2 ^ (199 - i) = 2 * 2 ^ (199 - (i + 1)) := by rw [← Nat.pow_succ']; exact congrArg (2 ^ ·) (by omega)
  have e3 : 2 ^ (199 - i) = 2 ^ 129 * 2 ^ (70 - i) := by rw [← Nat.pow_add]; exact congrArg (2 ^ ·) (by omega)
  have e4 : t * 2 ^ (70 - i) < 2 ^ 129 * 2 ^ (70 - i) := Nat.mul_lt_mul_of_pos_right ht (pow_pos _)
  have e5 : 2 ^ (199 - i) ≤ 2 ^ 199 := pow_le (by omega)
  have hA : t * 2 ^ (70 - i) = 2 * (t * 2 ^ (70 - (i + 1))) := by rw [e1]; exact Nat.mul_left_comm _ _ _
  rw [Nat.zero_mul, Nat.add_zero, Nat.pow_one, hA, e2]
  have e7 : 2 ^ 129 * 2 ^ (70 - i) ≤ 2 ^ 199 := by rw [← e3]; exact e5
  rw [hA] at e4
  generalize t * 2 ^ (70 - (i + 1)) = v2 at *
  generalize 2 ^ (199 - (i + 1)) = u at *
  generalize 2 ^ (70 - i) = u3 at *
  have e8 : 2 * u ≤ 2 ^ 199 := by rw [← e2]; exact e5
  clear e1 e2 e3 e5 hA
  generalize 2 ^ 129 * u3 = q at *
  omega
theorem yo_lt {t i : Nat} (ht : t < 2 ^ 129) (hi : i ≤ 70) : yo t i < 2 ^ 200 := by
  unfold yo
  have e3 : 2 ^ (200 - i) = 2 ^ 130 * 2 ^ (70 - i) := by rw [← Nat.pow_add]; exact congrArg (2 ^ ·) (by omega)
  have e4 : t * 2 ^ (70 - i) < 2 ^ 129 * 2 ^ (70 - i) := Nat.mul_lt_mul_of_pos_right ht (pow_pos _)
  have e5 : 2 ^ (200 - i) ≤ 2 ^ 200 := pow_le (by omega)
  have e7 : 2 ^ 130 * 2 ^ (70 - i) = 2 * (2 ^ 129 * 2 ^ (70 - i)) := by rw [← Nat.mul_assoc, ← Nat.pow_succ']
  generalize t * 2 ^ (70 - i) = v at *
  omega
theorem yz_lt {t i : Nat} (ht : t < 2 ^ 129) (hi : i ≤ 70) : yz t i < 2 ^ 200 := by
  unfold yz
  have e3 : 2 ^ (199 - i) = 2 ^ 129 * 2 ^ (70 - i) := by rw [← Nat.pow_add]; exact congrArg (2 ^ ·) (by omega)
  have e4 : t * 2 ^ (70 - i) < 2 ^ 129 * 2 ^ (70 - i) := Nat.mul_lt_mul_of_pos_right ht (pow_pos _)
  have e5 : 2 ^ (199 - i) ≤ 2 ^ 199 := pow_le (by omega)
  generalize t * 2 ^ (70 - i) = v at *
  omega
theorem l0_Y {n t r : Nat} (b : Bool) (ht : t < 2 ^ 129) (hr : r ≤ 66) (k : Nat) : ∀ d i : Nat, i + d = r →
    round_Cut.l0 (k + d + 1) (n : Int) (reY b (yo t i)) (r : Int) (i : Int) (hiY (yo t i)) (loY (yo t i)) = round_Cut.j3 k (n : Int) (reY b (yo t r)) (hiY (yo t r)) (loY (yo t r)) := by
  intro d
  induction d with
  | zero =>
    intro i hi
    rw [show k + 0 + 1 = k + 1 from rfl, round_Cut.l0, if_neg (by omega), show i = r by omega]
  | succ d ih =>
    intro i hi
    rw [show k + (d + 1) + 1 = (k + d + 1) + 1 by omega, round_Cut.l0]
    obtain ⟨s1, s2, s3⟩ := yo_step (i := i) ht (by omega)
    have hu := under_Y (m := 1) (c := 1) b s1 (.inl rfl) (by decide) s2
    rw [s3] at hu
    have hw : wrap64 ((i : Int) + 1) = ((i + 1 : Nat) : Int) := by unfold wrap64; omega
    have hu' : round_under.f (hiY (yo t i)) (loY (yo t i)) 1 1 (reY b (yo t i)) = some (hiY (yo t (i + 1)), loY (yo t (i + 1)), reY b (yo t (i + 1))) := hu
    rw [if_pos (by omega), hu', hw]
    simp only [Option.bind_some]
    exact ih (i + 1) (by omega)
theorem l1_Y {n t r : Nat} (b : Bool) (ht : t < 2 ^ 129) (hr : r ≤ 66) (k : Nat) : ∀ d i : Nat, i + d = r →
    round_Cut.l1 (k + d + 1) (n : Int) (reY b (yz t i)) (r : Int) (i : Int) (hiY (yz t i)) (loY (yz t i)) = round_Cut.j3 k (n : Int) (reY b (yz t r)) (hiY (yz t r)) (loY (yz t r)) := by
  intro d
  induction d with
  | zero =>
    intro i hi
    rw [show k + 0 + 1 = k + 1 from rfl, round_Cut.l1, if_neg (by omega), show i = r by omega]
  | succ d ih =>
    intro i hi
    rw [show k + (d + 1) + 1 = (k + d + 1) + 1 by omega, round_Cut.l1]
    obtain ⟨s1, s2, s3⟩ := yz_step (i := i) ht (by omega)
    have hu := under_Y (m := 1) (c := 0) b s1 (.inl rfl) (by decide) s2
    rw [s3] at hu
    have hw : wrap64 ((i : Int) + 1) = ((i + 1 : Nat) : Int) := by unfold wrap64; omega
    have hu' : round_under.f (hiY (yz t i)) (loY (yz t i)) 0 1 (reY b (yz t i)) = some (hiY (yz t (i + 1)), loY (yz t (i + 1)), reY b (yz t (i + 1))) := hu
    rw [if_pos (by omega), hu', hw]
    simp only [Option.bind_some]
    exact ih (i + 1) (by omega)
end Go.Proofs.Ytnlbfomlfhigcaa.M
