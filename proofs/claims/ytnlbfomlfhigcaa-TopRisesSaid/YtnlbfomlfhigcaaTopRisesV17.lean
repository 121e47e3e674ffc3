/- Walks and plain laws that the claim stands on: each theorem named calls says that a call of a function returns what its f computes; the others are plain laws of these f, and the words that the walks use. -/
import Derived.Test.YtnlbfomlfhigcaaTopRisesV16
import Derived.Test.YtnlbfomlfhigcaaTopRisesV12
import Derived.Test.YtnlbfomlfhigcaaTopRisesV6
import Derived.Test.YtnlbfomlfhigcaaTopRisesV5
import Derived.Test.YtnlbfomlfhigcaaTopRisesV11
namespace Go.Proofs.Ytnlbfomlfhigcaa.M
def Runs (L y r : Nat) (ones : Bool) : Prop :=
  1 ≤ r ∧ r ≤ L ∧ (if ones then 2 ^ L ≤ y + 2 ^ (L - r) ∧ (r = L ∨ y + 2 ^ (L - r - 1) < 2 ^ L) else y < 2 ^ (L - r) ∧ (r = L ∨ 2 ^ (L - r - 1) ≤ y))
theorem Runs.rest {L y r : Nat} {ones : Bool} (h : Runs L y r ones) (hy : 1 ≤ y) (hy2 : y < 2 ^ L) :
    (ones = true → y = 2 ^ L - 2 ^ (L - r) + y % 2 ^ (L - r - 1)) ∧ (ones = false → r < L ∧ y = 2 ^ (L - r - 1) + y % 2 ^ (L - r - 1)) := by
  obtain ⟨h1, h2, h3⟩ := h
  constructor
  · rintro rfl
    rw [if_pos rfl] at h3
    obtain ⟨h3, h4⟩ := h3
    have p1 := pow_le (show L - r ≤ L by omega)
    rcases h4 with h4 | h4
    · subst h4
      rw [Nat.sub_self, Nat.pow_zero] at h3
      simp only [Nat.sub_self, Nat.pow_zero, Nat.zero_sub, Nat.mod_one]
      omega
    · by_cases e : r = L
      · subst e
        rw [Nat.sub_self, Nat.pow_zero] at h3
        simp only [Nat.sub_self, Nat.pow_zero, Nat.zero_sub, Nat.mod_one]
        omega
      · have e1 : 2 ^ (L - r) = 2 * 2 ^ (L - r - 1) := by rw [← Nat.pow_succ']; exact congrArg (2 ^ ·) (by omega)
        have e2 : 2 ^ L = 2 ^ (r + 1) * 2 ^ (L - r - 1) := by rw [← Nat.pow_add]; exact congrArg (2 ^ ·) (by omega)
        have p2 := pow_pos (r + 1)
        have p3 : 2 ≤ 2 ^ (r + 1) := by rw [Nat.pow_succ]; have := pow_pos r; omega
        generalize 2 ^ (L - r - 1) = d at *
        generalize 2 ^ (r + 1) = a at *
        obtain ⟨a, rfl⟩ : ∃ b, a = b + 2 := ⟨a - 2, by omega⟩
        have e3 : (a + 2) * d = a * d + 2 * d := Nat.add_mul _ _ _
        have hq : y = a * d + (y - a * d) := by omega
        have hm : y % d = y - a * d := by
          rw [hq, Nat.add_comm (a * d), Nat.add_mul_mod_self_right, Nat.mod_eq_of_lt (by omega)]
          omega
        omega
  · rintro rfl
    simp only [Bool.false_eq_true, if_false] at h3
    obtain ⟨h3, h4⟩ := h3
    have hr : r ≠ L := by
      rintro rfl
      rw [Nat.sub_self, Nat.pow_zero] at h3
      omega
    refine ⟨by omega, ?_⟩
    rcases h4 with h4 | h4
    · exact absurd h4 hr
    · have e1 : 2 ^ (L - r) = 2 * 2 ^ (L - r - 1) := by rw [← Nat.pow_succ']; exact congrArg (2 ^ ·) (by omega)
      generalize 2 ^ (L - r - 1) = d at *
      have hq : y = (y - d) + 1 * d := by omega
      have hm : y % d = y - d := by
        rw [hq, Nat.add_mul_mod_self_right, Nat.mod_eq_of_lt (by omega)]
        omega
      omega
def reg (r : Nat) (ones : Bool) : Int := if ones then (r : Int) - 1 else -(r : Int)
theorem parse_dec {n y r : Nat} (hn : Wd n) (ones : Bool) (hy : 1 ≤ y) (hy2 : y < 2 ^ (n - 1)) (h : Runs (n - 1) y r ones) (m eb fb e fr : Nat)
    (hm : m = n - 1 - r - 1) (heb : eb = min m 2) (hfb : fb = m - eb) (he : e = y / 2 ^ fb % 2 ^ eb) (hfr : fr = y % 2 ^ fb) :
    Dec n y (4 * reg r ones + ((e * 2 ^ (2 - eb) : Nat) : Int)) (2 ^ 63 + fr * 2 ^ (63 - fb)) ∧ fb ≤ 61 ∧ e * 2 ^ (2 - eb) ≤ 3 ∧ fr < 2 ^ fb := by
  have hb := hn.bd
  have hR := h
  obtain ⟨h1, h2, _⟩ := h
  have hfr2 : fr < 2 ^ fb := by rw [hfr]; exact Nat.mod_lt _ (pow_pos _)
  have hem : y % 2 ^ m = e * 2 ^ fb + fr := by
    have : m = fb + eb := by omega
    rw [this, Nat.pow_add, Nat.mod_mul, he, hfr]
    rw [Nat.mul_comm]
    omega
  have hfb61 : fb ≤ 61 := by omega

  have hcase : (m = 0 ∧ eb = 0 ∧ fb = 0) ∨ (m = 1 ∧ eb = 1 ∧ fb = 0) ∨ (2 ≤ m ∧ eb = 2 ∧ fb = m - 2) := by omega
  have he3 : e * 2 ^ (2 - eb) ≤ 3 := by
    have : e < 2 ^ eb := by rw [he]; exact Nat.mod_lt _ (pow_pos _)
    rcases hcase with ⟨_, rfl, _⟩ | ⟨_, rfl, _⟩ | ⟨_, rfl, _⟩ <;> simp only [Nat.reduceSub, Nat.reducePow] at * <;> omega
  have htl : e * 2 ^ (2 - eb) * 2 ^ 127 + fr * 2 ^ (127 - fb) = (y % 2 ^ m) * 2 ^ (129 - m) := by
    rw [hem, Nat.add_mul]
    rcases hcase with ⟨rfl, rfl, rfl⟩ | ⟨rfl, rfl, rfl⟩ | ⟨hm2, rfl, rfl⟩
    · have : fr = 0 := by simpa using hfr2
      have : e = 0 := by rw [he, Nat.pow_zero, Nat.mod_one]
      subst_vars
      omega
    · have : fr = 0 := by simpa using hfr2
      rw [this]
      omega
    · rw [show 2 - 2 = 0 from rfl, Nat.pow_zero, Nat.mul_one, show 127 - (m - 2) = 129 - m by omega, Nat.mul_assoc, ← Nat.pow_add, show m - 2 + (129 - m) = 127 by omega]
  generalize hE : e * 2 ^ (2 - eb) = E at *
  have hf : fr * 2 ^ (63 - fb) < 2 ^ 63 := by
    have : fr * 2 ^ (63 - fb) < 2 ^ fb * 2 ^ (63 - fb) := Nat.mul_lt_mul_of_pos_right hfr2 (pow_pos _)
    rw [← Nat.pow_add, show fb + (63 - fb) = 63 by omega] at this
    exact this
  have hF : (2 ^ 63 + fr * 2 ^ (63 - fb)) * 2 ^ 64 - 2 ^ 127 = fr * 2 ^ (127 - fb) := by
    rw [Nat.add_mul, Nat.mul_assoc fr, ← Nat.pow_add, ← Nat.pow_add, show 63 + 64 = 127 from rfl, show 63 - fb + 64 = 127 - fb by omega]
    omega
  have htl2 : tl (4 * reg r ones + (E : Int)) ((2 ^ 63 + fr * 2 ^ (63 - fb)) * 2 ^ 64) = (y % 2 ^ m) * 2 ^ (129 - m) := by
    unfold tl
    rw [hF, show ((4 * reg r ones + (E : Int)) % 4).toNat = E by omega]
    exact htl
  have hs4 : (4 * reg r ones + (E : Int)) / 4 = reg r ones := by omega
  refine ⟨?_, hfb61, he3, hfr2⟩
  have hrest := hR.rest hy hy2
  unfold Dec
  refine ⟨by omega, by omega, ?_⟩
  cases ones with
  | true =>
    have hreg : reg r true = ((r - 1 : Nat) : Int) := by unfold reg; rw [if_pos rfl]; omega
    have hye := hrest.1 rfl
    rw [← hm] at hye
    have hEr : r = n - 1 → E = 0 := by
      intro hr
      have : m = 0 := by omega
      have : eb = 0 := by omega
      subst this
      rw [← hE, he, Nat.pow_zero, Nat.mod_one, Nat.zero_mul]
    refine ⟨by rw [hreg]; omega, ?_, ?_⟩
    · rw [hreg]
      by_cases hr : r = n - 1
      · rw [hEr hr]; omega
      · omega
    · rw [str_pos (hs4.trans hreg), htl2]
      have p1 := pow_le (show n - 1 - r ≤ n - 1 by omega)
      have e1 : 2 ^ 130 * 2 ^ (69 - (r - 1)) = 2 ^ (n - 1 - r) * 2 ^ (201 - n) := by rw [← Nat.pow_add, ← Nat.pow_add]; exact congrArg (2 ^ ·) (by omega)
      have e3 : 2 ^ (n - 1) * 2 ^ (201 - n) = 2 ^ 200 := (unit_eq hn).1
      have hmul : (y + 2 ^ (n - 1 - r)) * 2 ^ (201 - n) = (2 ^ (n - 1) + y % 2 ^ m) * 2 ^ (201 - n) := congrArg (· * 2 ^ (201 - n)) (by omega)
      rw [Nat.add_mul, Nat.add_mul, e3, ← e1] at hmul
      have e2 : y % 2 ^ m * 2 ^ (129 - m) * 2 ^ (69 - (r - 1)) = y % 2 ^ m * 2 ^ (201 - n) := by
        by_cases hr : r = n - 1
        · have : m = 0 := by omega
          subst this
          simp only [Nat.pow_zero, Nat.mod_one, Nat.zero_mul]
        · rw [Nat.mul_assoc, ← Nat.pow_add]; exact congrArg (fun z => y % 2 ^ m * 2 ^ z) (by omega)
      rw [e2]
      have := pos_room (show r - 1 ≤ 69 by omega)
      omega
  | false =>
    obtain ⟨hrl, hye⟩ := hrest.2 rfl
    rw [← hm] at hye
    have hreg : reg r false = -(r : Int) := rfl
    refine ⟨by rw [hreg]; omega, by rw [hreg]; omega, ?_⟩
    rw [str_neg (hs4.trans hreg) h1, htl2]
    have e1 : 2 ^ 129 * 2 ^ (70 - r) = 2 ^ m * 2 ^ (201 - n) := by rw [← Nat.pow_add, ← Nat.pow_add]; exact congrArg (2 ^ ·) (by omega)
    have e2 : y % 2 ^ m * 2 ^ (129 - m) * 2 ^ (70 - r) = y % 2 ^ m * 2 ^ (201 - n) := by
      rw [Nat.mul_assoc, ← Nat.pow_add]; exact congrArg (fun z => y % 2 ^ m * 2 ^ z) (by omega)
    rw [e1, e2, ← Nat.add_mul, ← hye]
end Go.Proofs.Ytnlbfomlfhigcaa.M
namespace Go.Proofs.Ytnlbfomlfhigcaa.M
open Go.RowKit Go.Proofs.YtnlbfomlfhigcaaW.PrintWords Go.Proofs.YtnlbfomlfhigcaaW.PrintLast Go.Proofs.YtnlbfomlfhigcaaW.PrintMore Go.Proofs.Ytnlbfomlfhigcaa.Q
theorem bitLen_zero : Lib.bitLen 0 = 0 := by decide +kernel
theorem bitLen_bd {z : Nat} (h : z < 2 ^ 64) (h0 : z ≠ 0) : 1 ≤ Lib.bitLen z ∧ Lib.bitLen z ≤ 64 ∧ 2 ^ (Lib.bitLen z - 1) ≤ z ∧ z < 2 ^ Lib.bitLen z := by
  obtain ⟨a, b, c⟩ := Lib.bitLenAux_bounds 64 z h h0
  exact ⟨a, Lib.bitLen_le z 64 (by omega) h, b, c⟩
theorem pow_lt_iff {a b : Nat} (h : 2 ^ a < 2 ^ b) : a < b := by
  by_cases c : a < b
  · exact c
  · have := pow_le (show b ≤ a by omega); omega
theorem runs_zeros {L y : Nat} (h1 : 1 ≤ L) (h2 : L ≤ 63) (hy : y < 2 ^ (L - 1)) :
    Runs L y (min (64 - Lib.bitLen (y * 2 ^ (64 - L))) L) false := by
  by_cases h0 : y = 0
  · subst h0
    rw [Nat.zero_mul, bitLen_zero, Nat.min_eq_right (by omega)]
    refine ⟨h1, Nat.le_refl _, ?_⟩
    simp
  · have e1 : 2 ^ (L - 1) * 2 ^ (64 - L) = 2 ^ 63 := by rw [← Nat.pow_add]; exact congrArg (2 ^ ·) (by omega)
    have hz : y * 2 ^ (64 - L) < 2 ^ 63 := by rw [← e1]; exact Nat.mul_lt_mul_of_pos_right hy (pow_pos _)
    have hz1 : 2 ^ (64 - L) ≤ y * 2 ^ (64 - L) := Nat.le_mul_of_pos_left _ (by omega)
    have hp := pow_pos (64 - L)
    obtain ⟨b1, b2, b3, b4⟩ := bitLen_bd (z := y * 2 ^ (64 - L)) (by omega) (by omega)
    generalize Lib.bitLen (y * 2 ^ (64 - L)) = b at *
    have c1 : b - 1 < 63 := pow_lt_iff (Nat.lt_of_le_of_lt b3 hz)
    have c2 : 64 - L < b := pow_lt_iff (Nat.lt_of_le_of_lt hz1 b4)
    rw [Nat.min_eq_left (by omega)]
    refine ⟨by omega, by omega, ?_⟩
    rw [if_neg (by simp)]
    constructor
    · have e : 2 ^ b = 2 ^ (L - (64 - b)) * 2 ^ (64 - L) := by rw [← Nat.pow_add]; exact congrArg (2 ^ ·) (by omega)
      rw [e] at b4
      exact Nat.lt_of_mul_lt_mul_right b4
    · right
      have e : 2 ^ (b - 1) = 2 ^ (L - (64 - b) - 1) * 2 ^ (64 - L) := by rw [← Nat.pow_add]; exact congrArg (2 ^ ·) (by omega)
      rw [e] at b3
      exact Nat.le_of_mul_le_mul_right b3 hp
theorem runs_ones {L y : Nat} (h1 : 1 ≤ L) (h2 : L ≤ 63) (hy : 2 ^ (L - 1) ≤ y) (hy2 : y < 2 ^ L) :
    Runs L y (min (64 - Lib.bitLen (2 ^ 64 - 1 - y * 2 ^ (64 - L))) L) true := by
  have e0 : 2 ^ L * 2 ^ (64 - L) = 2 ^ 64 := by rw [← Nat.pow_add]; exact congrArg (2 ^ ·) (by omega)
  have e1 : 2 ^ (L - 1) * 2 ^ (64 - L) = 2 ^ 63 := by rw [← Nat.pow_add]; exact congrArg (2 ^ ·) (by omega)
  have hp := pow_pos (64 - L)
  have hmul : (2 ^ L - y) * 2 ^ (64 - L) = 2 ^ 64 - y * 2 ^ (64 - L) := by rw [Nat.sub_mul, e0]
  have hlo : 2 ^ 63 ≤ y * 2 ^ (64 - L) := by rw [← e1]; exact Nat.mul_le_mul_right _ hy
  have hhi : y * 2 ^ (64 - L) + 2 ^ (64 - L) ≤ 2 ^ 64 := by rw [← e0, ← Nat.succ_mul]; exact Nat.mul_le_mul_right _ hy2
  by_cases h0 : 2 ^ 64 - 1 - y * 2 ^ (64 - L) < 2 ^ (64 - L)
  · have hyl : 2 ^ L - y ≤ 1 := by
      by_cases c : 2 ^ L - y ≤ 1
      · exact c
      · have : 2 * 2 ^ (64 - L) ≤ (2 ^ L - y) * 2 ^ (64 - L) := Nat.mul_le_mul_right _ (by omega)
        omega
    have hb : Lib.bitLen (2 ^ 64 - 1 - y * 2 ^ (64 - L)) ≤ 64 - L := Lib.bitLen_le _ _ (by omega) h0
    rw [Nat.min_eq_right (by omega)]
    refine ⟨h1, Nat.le_refl _, ?_⟩
    rw [if_pos rfl, Nat.sub_self, Nat.pow_zero]
    omega
  · obtain ⟨b1, b2, b3, b4⟩ := bitLen_bd (z := 2 ^ 64 - 1 - y * 2 ^ (64 - L)) (by omega) (by omega)
    generalize Lib.bitLen (2 ^ 64 - 1 - y * 2 ^ (64 - L)) = b at *
    have c1 : b - 1 < 63 := pow_lt_iff (Nat.lt_of_le_of_lt b3 (by omega))
    have c2 : 64 - L < b := pow_lt_iff (Nat.lt_of_le_of_lt (by omega) b4)
    rw [Nat.min_eq_left (by omega)]
    refine ⟨by omega, by omega, ?_⟩
    rw [if_pos rfl]
    constructor
    · have e : 2 ^ b = 2 ^ (L - (64 - b)) * 2 ^ (64 - L) := by rw [← Nat.pow_add]; exact congrArg (2 ^ ·) (by omega)
      have : (2 ^ L - y) * 2 ^ (64 - L) ≤ 2 ^ (L - (64 - b)) * 2 ^ (64 - L) := by rw [← e]; omega
      have := Nat.le_of_mul_le_mul_right this hp
      omega
    · right
      have e : 2 ^ (b - 1) = 2 ^ (L - (64 - b) - 1) * 2 ^ (64 - L) := by rw [← Nat.pow_add]; exact congrArg (2 ^ ·) (by omega)
      have : 2 ^ (L - (64 - b) - 1) * 2 ^ (64 - L) < (2 ^ L - y) * 2 ^ (64 - L) := by rw [← e]; omega
      have := Nat.lt_of_mul_lt_mul_right this
      omega
theorem run_nat {L x : Nat} (h1 : 1 ≤ L) (h2 : L ≤ 63) (k : Nat) : ∃ r : Nat, Runs L (x % 2 ^ L) r (decide (2 ^ (L - 1) ≤ x % 2 ^ L)) ∧ lead_Run.f (k + 1) (x : Int) (L : Int) = some (decide (2 ^ (L - 1) ≤ x % 2 ^ L), (r : Int), none) := by
  have e0 : 2 ^ L * 2 ^ (64 - L) = 2 ^ 64 := by rw [← Nat.pow_add]; exact congrArg (2 ^ ·) (by omega)
  have e1 : 2 ^ (L - 1) * 2 ^ (64 - L) = 2 ^ 63 := by rw [← Nat.pow_add]; exact congrArg (2 ^ ·) (by omega)
  have hy : x % 2 ^ L < 2 ^ L := Nat.mod_lt _ (pow_pos _)
  have hx : x * 2 ^ (64 - L) % 2 ^ 64 = x % 2 ^ L * 2 ^ (64 - L) := by rw [← e0, Nat.mul_mod_mul_right]
  have hw : wrap64 (64 - (L : Int)) = ((64 - L : Nat) : Int) := by unfold wrap64; omega
  unfold lead_Run.f
  rw [if_neg (by omega)]
  have hd : decide ((L : Int) > 64) = false := by simp; omega
  rw [hd]
  simp only [lead_Run.j0]
  rw [if_neg (by simp), hw, if_pos (by omega), shl_nat x (64 - L) (by omega), hx]
  generalize x % 2 ^ L = y at *
  have hyz : y * 2 ^ (64 - L) < 2 ^ 64 := by rw [← e0]; exact Nat.mul_lt_mul_of_pos_right hy (pow_pos _)
  have hdiv : (((y * 2 ^ (64 - L) : Nat) : Int) / 9223372036854775808 = 1) ↔ 2 ^ (L - 1) ≤ y := by
    rw [← Nat.mul_le_mul_right_iff (pow_pos (64 - L)), e1, p63]
    rw [p64] at hyz
    omega
  by_cases c : 2 ^ (L - 1) ≤ y
  · have hr := runs_ones h1 h2 c hy
    refine ⟨_, by rw [decide_eq_true c]; exact hr, ?_⟩
    have hb := Lib.bitLen_le (2 ^ 64 - 1 - y * 2 ^ (64 - L)) 64 (by omega) (by omega)
    rw [if_pos (hdiv.2 c), xor_all _ hyz]
    unfold bits_LeadingZeros64.f
    rw [if_pos (by rw [p64]; omega), Int.toNat_natCast]
    simp only [Option.bind_some]
    rw [show (64 - ((Lib.bitLen (2 ^ 64 - 1 - y * 2 ^ (64 - L)) : Nat) : Int)) = ((64 - Lib.bitLen (2 ^ 64 - 1 - y * 2 ^ (64 - L)) : Nat) : Int) by omega, mn_nat, hdiv.2 c, decide_eq_true c]
    rfl
  · have hr := runs_zeros h1 h2 (show y < 2 ^ (L - 1) by omega)
    refine ⟨_, by rw [decide_eq_false c]; exact hr, ?_⟩
    have hb := Lib.bitLen_le (y * 2 ^ (64 - L)) 64 (by omega) (by omega)
    rw [if_neg (fun h => c (hdiv.1 h))]
    unfold bits_LeadingZeros64.f
    rw [if_pos (by rw [p64] at hyz; omega), Int.toNat_natCast]
    simp only [Option.bind_some]
    rw [show (64 - ((Lib.bitLen (y * 2 ^ (64 - L)) : Nat) : Int)) = ((64 - Lib.bitLen (y * 2 ^ (64 - L)) : Nat) : Int) by omega, mn_nat, decide_eq_false c, beq_eq_false_iff_ne.mpr (fun h => c (hdiv.1 h))]
theorem shl_i64_small {e j : Nat} (he : e ≤ 3) (hj : j ≤ 2) : shl .i64 (wrap64 (e : Int)) (j : Int) = ((e * 2 ^ j : Nat) : Int) := by
  unfold shl
  rw [IntKind.wrap_i64, Int.toNat_natCast, Nat.min_eq_left (show j ≤ IntKind.i64.bits from by show _ ≤ 64; omega), cast_pow, wrap64_id (by omega) (by omega)]
  have h1 : 2 ^ j ≤ 2 ^ 2 := pow_le hj
  have h2 : e * 2 ^ j ≤ 3 * 2 ^ 2 := Nat.mul_le_mul he h1
  rw [show ((e : Int) * ((2 ^ j : Nat) : Int)) = ((e * 2 ^ j : Nat) : Int) by simp]
  generalize e * 2 ^ j = z at *
  omega
theorem split_j2 {L x r m : Nat} (hL : L ≤ 63) (hx : x < 2 ^ 64) (h1 : 1 ≤ r) (h2 : r ≤ L) (hm : m = L - r - 1) (neg ones : Bool) (rg : Int) (k : Nat) :
    codec_Split.j2 (k + 1) (x : Int) (L : Int) neg ones (r : Int) rg 0 0 0 0 =
      some (neg, ones, (r : Int), rg, ((min m 2 : Nat) : Int), ((x / 2 ^ (m - min m 2) % 2 ^ (min m 2) * 2 ^ (2 - min m 2) : Nat) : Int), ((m - min m 2 : Nat) : Int), ((x % 2 ^ (m - min m 2) : Nat) : Int), none) := by
  have e1 : mx (wrap64 (wrap64 ((L : Int) - (r : Int)) - 1)) 0 = ((m : Nat) : Int) := by
    unfold mx wrap64
    split <;> omega
  have e2 : mn ((m : Nat) : Int) 2 = ((min m 2 : Nat) : Int) := mn_nat m 2
  have e3 : wrap64 ((m : Int) - ((min m 2 : Nat) : Int)) = ((m - min m 2 : Nat) : Int) := by unfold wrap64; omega
  have e4 : wrap64 (2 - ((min m 2 : Nat) : Int)) = ((2 - min m 2 : Nat) : Int) := by unfold wrap64; omega
  simp only [codec_Split.j2]
  rw [e1, e2, e3, e4, field_nat hx (by omega) (by omega)]
  simp only [Option.bind_some]
  rw [if_pos (by omega)]
  have e5 := field_nat (x := x) (a := 0) (j := m - min m 2) hx (by omega) (by omega)
  rw [Nat.pow_zero, Nat.div_one] at e5
  have e6 : lead_Field.f (x : Int) 0 ((m - min m 2 : Nat) : Int) = some (((x % 2 ^ (m - min m 2) : Nat) : Int), none) := e5
  rw [e6]
  simp only [Option.bind_some]
  have h3 : x / 2 ^ (m - min m 2) % 2 ^ (min m 2) < 2 ^ (min m 2) := Nat.mod_lt _ (pow_pos _)
  have h4 : 2 ^ (min m 2) ≤ 2 ^ 2 := pow_le (by omega)
  rw [shl_i64_small (by omega) (by omega)]
def sgn (n y : Nat) : Bool := decide (2 ^ (n - 1) ≤ y)
def mag (n y : Nat) : Nat := if 2 ^ (n - 1) ≤ y then 2 ^ n - y else y
theorem two_half {n : Nat} (h : Wd n) : 2 ^ n = 2 * 2 ^ (n - 1) := by
  have := h.bd
  rw [← Nat.pow_succ']
  exact congrArg (2 ^ ·) (by omega)
theorem mag_bd {n y : Nat} (h : Wd n) (hy : y < 2 ^ n) (hk : knd n y = 1) : 1 ≤ mag n y ∧ mag n y < 2 ^ (n - 1) := by
  have e := two_half h
  unfold knd at hk
  split at hk
  · omega
  · split at hk
    · omega
    · unfold mag
      split <;> omega
theorem split_real {n : Nat} (hn : Wd n) {p : Nat} (hp : p < 2 ^ 64) (hk : knd n (p % 2 ^ n) = 1) : ∃ r m : Nat, ∃ ones : Bool, ∃ x : Nat, Runs (n - 1) (mag n (p % 2 ^ n)) r ones ∧ m = n - 1 - r - 1 ∧ x % 2 ^ (n - 1) = mag n (p % 2 ^ n) ∧
    ∀ k, codec_Split.f (k + 8) (n : Int) (p : Int) = some (sgn n (p % 2 ^ n), ones, (r : Int), reg r ones, ((min m 2 : Nat) : Int), ((x / 2 ^ (m - min m 2) % 2 ^ (min m 2) * 2 ^ (2 - min m 2) : Nat) : Int), ((m - min m 2 : Nat) : Int), ((x % 2 ^ (m - min m 2) : Nat) : Int), none) := by
  have hb := hn.bd
  have e2 := two_half hn
  have hy : p % 2 ^ n < 2 ^ n := Nat.mod_lt _ (pow_pos _)
  have hmb := mag_bd hn hy hk

  obtain ⟨x, hx, hx64, hxs⟩ : ∃ x : Nat, x % 2 ^ (n - 1) = mag n (p % 2 ^ n) ∧ x < 2 ^ 64 ∧ (x : Int) = (if rk n (p % 2 ^ n) < 0 then IntKind.u64.wrap (-(p : Int)) else (p : Int)) := by
    by_cases c : 2 ^ (n - 1) ≤ p % 2 ^ n
    · have h1 : rk n (p % 2 ^ n) < 0 := by unfold rk; rw [if_neg (by omega)]; omega
      have h0 : p ≠ 0 := by rintro rfl; rw [Nat.zero_mod] at c; have := pow_pos (n - 1); omega
      refine ⟨2 ^ 64 - p, ?_, by omega, by rw [if_pos h1, u64w, p64]; rw [p64] at hp; omega⟩
      have hm : mag n (p % 2 ^ n) = 2 ^ n - p % 2 ^ n := by unfold mag; rw [if_pos c]
      rw [hm] at hmb ⊢
      have hd : 2 ^ (64 - n) * 2 ^ n = 2 ^ 64 := by rw [← Nat.pow_add]; exact congrArg (2 ^ ·) (by omega)
      have hdm := Nat.div_add_mod p (2 ^ n)
      have hq : p / 2 ^ n < 2 ^ (64 - n) := by rw [Nat.div_lt_iff_lt_mul (pow_pos _), hd]; exact hp
      have : 2 ^ 64 - p = (2 ^ n - p % 2 ^ n) + (2 * (2 ^ (64 - n) - 1 - p / 2 ^ n)) * 2 ^ (n - 1) := by
        rw [Nat.mul_comm 2, Nat.mul_assoc, ← e2, Nat.sub_mul, Nat.sub_mul, hd, Nat.one_mul, Nat.mul_comm (p / 2 ^ n)]
        have : 2 ^ n * (p / 2 ^ n) + 2 ^ n ≤ 2 ^ 64 := by rw [← hd, Nat.mul_comm (2 ^ (64 - n)), ← Nat.mul_succ]; exact Nat.mul_le_mul_left _ hq
        omega
      rw [this, Nat.add_mul_mod_self_right, Nat.mod_eq_of_lt hmb.2]
    · have h1 : ¬ rk n (p % 2 ^ n) < 0 := by unfold rk; rw [if_pos (by omega)]; omega
      refine ⟨p, ?_, hp, by rw [if_neg h1]⟩
      have hm : mag n (p % 2 ^ n) = p % 2 ^ n := by unfold mag; rw [if_neg c]
      rw [hm] at hmb ⊢
      have : p % 2 ^ (n - 1) = p % 2 ^ n % 2 ^ (n - 1) := by rw [e2, Nat.mul_comm, Nat.mod_mul_right_mod]
      rw [this, Nat.mod_eq_of_lt hmb.2]
  obtain ⟨r, hr, hrun⟩ := run_nat (L := n - 1) (x := x) (by omega) (by omega) 0
  rw [hx] at hr
  refine ⟨r, n - 1 - r - 1, _, x, hr, rfl, hx, fun k => ?_⟩
  obtain ⟨r', hr', hrun'⟩ := run_nat (L := n - 1) (x := x) (by omega) (by omega) (k + 5)
  have hrr : r' = r := by
    have a1 := hrun
    have : lead_Run.f (k + 5 + 1) (x : Int) ((n - 1 : Nat) : Int) = lead_Run.f (0 + 1) (x : Int) ((n - 1 : Nat) : Int) := by
      unfold lead_Run.f
      simp only [lead_Run.j0]
    rw [this, hrun] at hrun'
    simp only [Option.some.injEq, Prod.mk.injEq] at hrun'
    omega
  subst hrr
  unfold codec_Split.f
  rw [kind_yes hn hp, hk]
  simp only [Option.bind_some, Option.isNone_none, if_true]
  have hne : ((((1 : Nat) : Int)) != 1) = false := by decide
  rw [hne]
  simp only [codec_Split.j0]
  rw [if_neg (by simp), rank_yes hn]
  simp only [Option.bind_some]
  have hL : wrap64 ((n : Int) - 1) = ((n - 1 : Nat) : Int) := by unfold wrap64; omega
  have hsg : sgn n (p % 2 ^ n) = decide (rk n (p % 2 ^ n) < 0) := by
    unfold sgn rk
    by_cases c : 2 ^ (n - 1) ≤ p % 2 ^ n
    · rw [decide_eq_true c, if_neg (by omega)]; symm; simp only [decide_eq_true_eq]; omega
    · rw [decide_eq_false c, if_pos (by omega)]; symm; simp only [decide_eq_false_iff_not]; omega
  have key : ∀ ng : Bool, codec_Split.j1 (k + 8 - 1) (n : Int) (x : Int) ng false 0 0 0 0 0 0 = some (ng, decide (2 ^ (n - 1 - 1) ≤ x % 2 ^ (n - 1)), (r' : Int), reg r' (decide (2 ^ (n - 1 - 1) ≤ x % 2 ^ (n - 1))), ((min (n - 1 - r' - 1) 2 : Nat) : Int), ((x / 2 ^ (n - 1 - r' - 1 - min (n - 1 - r' - 1) 2) % 2 ^ (min (n - 1 - r' - 1) 2) * 2 ^ (2 - min (n - 1 - r' - 1) 2) : Nat) : Int), ((n - 1 - r' - 1 - min (n - 1 - r' - 1) 2 : Nat) : Int), ((x % 2 ^ (n - 1 - r' - 1 - min (n - 1 - r' - 1) 2) : Nat) : Int), none) := by
    intro ng
    rw [show k + 8 - 1 = k + 6 + 1 from rfl]
    simp only [codec_Split.j1]
    rw [hL, hrun']
    simp only [Option.bind_some]
    obtain ⟨g1, g2, _⟩ := hr
    have hw1 : wrap64 ((r' : Int) - 1) = (r' : Int) - 1 := wrap64_id (by omega) (by omega)
    have hw2 : wrap64 (-(r' : Int)) = -(r' : Int) := wrap64_id (by omega) (by omega)
    by_cases c : 2 ^ (n - 1 - 1) ≤ x % 2 ^ (n - 1)
    · rw [decide_eq_true c, if_pos rfl, hw1]
      exact split_j2 (by omega) hx64 g1 g2 rfl ng true _ (k + 5)
    · rw [decide_eq_false c, if_neg (by simp), hw2]
      exact split_j2 (by omega) hx64 g1 g2 rfl ng false _ (k + 5)
  rw [hsg]
  by_cases c : rk n (p % 2 ^ n) < 0
  · rw [if_pos c] at hxs ⊢
    rw [← hxs, decide_eq_true c, ← hx]
    exact key true
  · rw [if_neg c] at hxs ⊢
    rw [← hxs, decide_eq_false c, ← hx]
    exact key false
end Go.Proofs.Ytnlbfomlfhigcaa.M
namespace Go.Proofs.Ytnlbfomlfhigcaa.M
open Go.RowKit Go.Proofs.YtnlbfomlfhigcaaW.PrintWords Go.Proofs.YtnlbfomlfhigcaaW.PrintLast Go.Proofs.YtnlbfomlfhigcaaW.PrintMore Go.Proofs.Ytnlbfomlfhigcaa.Q
theorem pow_split {a b : Nat} (h : a ≤ b) : 2 ^ b = 2 ^ a * 2 ^ (b - a) := by rw [← Nat.pow_add]; exact congrArg (2 ^ ·) (by omega)
theorem shl_lo {h l j : Nat} (hl : l < 2 ^ 64) (hj : j < 64) :
    (h * 2 ^ 64 + l) * 2 ^ j % 2 ^ 128 / 2 ^ 64 = h * 2 ^ j % 2 ^ 64 + l / 2 ^ (64 - j) ∧ (h * 2 ^ 64 + l) * 2 ^ j % 2 ^ 64 = l * 2 ^ j % 2 ^ 64 := by
  have e1 : (h * 2 ^ 64 + l) * 2 ^ j = l * 2 ^ j + h * 2 ^ j * 2 ^ 64 := by rw [Nat.add_mul, Nat.mul_right_comm]; omega
  constructor
  · rw [e1, show (2 : Nat) ^ 128 = 2 ^ 64 * 2 ^ 64 from rfl, Nat.mod_mul_right_div_self, Nat.add_mul_div_right _ _ (by decide)]
    have e2 : l * 2 ^ j / 2 ^ 64 = l / 2 ^ (64 - j) := by
      rw [pow_split (show j ≤ 64 by omega), Nat.mul_comm, Nat.mul_div_mul_left _ _ (pow_pos j)]
    rw [e2]
    have h1 : l / 2 ^ (64 - j) < 2 ^ j := by
      rw [Nat.div_lt_iff_lt_mul (pow_pos _), Nat.mul_comm, ← Nat.pow_add, show 64 - j + j = 64 by omega]
      exact hl
    have h2 : h * 2 ^ j % 2 ^ 64 = h % 2 ^ (64 - j) * 2 ^ j := by
      rw [pow_split (show j ≤ 64 by omega), Nat.mul_comm (2 ^ j), Nat.mul_mod_mul_right]
    have h3 : h % 2 ^ (64 - j) < 2 ^ (64 - j) := Nat.mod_lt _ (pow_pos _)
    have h4 : (h % 2 ^ (64 - j) + 1) * 2 ^ j ≤ 2 ^ (64 - j) * 2 ^ j := Nat.mul_le_mul_right _ h3
    rw [← Nat.pow_add, show 64 - j + j = 64 by omega, Nat.add_mul, Nat.one_mul, ← h2] at h4
    rw [Nat.add_mod, Nat.mod_eq_of_lt (show l / 2 ^ (64 - j) < 2 ^ 64 by omega), Nat.mod_eq_of_lt (by omega)]
    omega
  · rw [e1, Nat.add_mul_mod_self_right]
theorem shl_hi {h l j : Nat} (hj : 64 ≤ j) : (h * 2 ^ 64 + l) * 2 ^ j % 2 ^ 128 / 2 ^ 64 = l * 2 ^ (j - 64) % 2 ^ 64 ∧ (h * 2 ^ 64 + l) * 2 ^ j % 2 ^ 64 = 0 := by
  have e : 2 ^ j = 2 ^ 64 * 2 ^ (j - 64) := pow_split hj
  have e1 : (h * 2 ^ 64 + l) * 2 ^ j = (l * 2 ^ (j - 64) + (h * 2 ^ (j - 64)) * 2 ^ 64) * 2 ^ 64 := by
    rw [e, Nat.add_mul, Nat.add_mul]
    have a1 : h * 2 ^ 64 * (2 ^ 64 * 2 ^ (j - 64)) = h * 2 ^ (j - 64) * 2 ^ 64 * 2 ^ 64 := by
      rw [Nat.mul_comm (2 ^ 64) (2 ^ (j - 64)), ← Nat.mul_assoc, Nat.mul_right_comm h]
    have a2 : l * (2 ^ 64 * 2 ^ (j - 64)) = l * 2 ^ (j - 64) * 2 ^ 64 := by rw [Nat.mul_comm (2 ^ 64), Nat.mul_assoc]
    rw [a1, a2]
    omega
  constructor
  · rw [e1, show (2 : Nat) ^ 128 = 2 ^ 64 * 2 ^ 64 from rfl, Nat.mod_mul_right_div_self, Nat.mul_div_cancel _ (by decide), Nat.add_mul_mod_self_right]
  · rw [e1, Nat.mul_mod_left]
theorem word_lt {x j : Nat} (h : x < 2 ^ 64) : x / 2 ^ j < 2 ^ 64 := Nat.lt_of_le_of_lt (Nat.div_le_self _ _) h
theorem shl_tw {h l j : Nat} (_ : h < 2 ^ 64) (hl : l < 2 ^ 64) (hj : j ≤ 128) : twin_shl.f (h : Int) (l : Int) (j : Int) =
    some ((((h * 2 ^ 64 + l) * 2 ^ j % 2 ^ 128 / 2 ^ 64 : Nat) : Int), (((h * 2 ^ 64 + l) * 2 ^ j % 2 ^ 64 : Nat) : Int)) := by
  unfold twin_shl.f
  by_cases c : 64 ≤ j
  · have hw : wrap64 ((j : Int) - 64) = ((j - 64 : Nat) : Int) := by unfold wrap64; omega
    rw [if_pos (by omega), hw, if_pos (by omega), shl_nat l (j - 64) (by omega), (shl_hi c).1, (shl_hi c).2]
    rfl
  · have hw : wrap64 (64 - (j : Int)) = ((64 - j : Nat) : Int) := by unfold wrap64; omega
    have hs := shl_lo (h := h) hl (show j < 64 by omega)
    rw [if_neg (by omega), if_pos (by omega), hw, if_pos (by omega), shl_nat h j (by omega), shl_nat l j (by omega), shr_nat l (64 - j) (by omega), hs.1, hs.2]
    have h1 : l / 2 ^ (64 - j) < 2 ^ j := by
      rw [Nat.div_lt_iff_lt_mul (pow_pos _), Nat.mul_comm, ← Nat.pow_add, show 64 - j + j = 64 by omega]
      exact hl
    have h2 : h * 2 ^ j % 2 ^ 64 % 2 ^ j = 0 := by
      rw [pow_split (show j ≤ 64 by omega), Nat.mod_mul_right_mod, Nat.mul_mod_left]
    rw [or_add _ _ j (Nat.mod_lt _ (by decide)) h1 (by omega) h2]
theorem shr_lo {h l j : Nat} (hl : l < 2 ^ 64) (hj : j < 64) :
    (h * 2 ^ 64 + l) / 2 ^ j / 2 ^ 64 = h / 2 ^ j ∧ (h * 2 ^ 64 + l) / 2 ^ j % 2 ^ 64 = h * 2 ^ (64 - j) % 2 ^ 64 + l / 2 ^ j := by
  have e1 : (h * 2 ^ 64 + l) / 2 ^ j = h * 2 ^ (64 - j) + l / 2 ^ j := by
    rw [pow_split (show j ≤ 64 by omega), Nat.mul_comm (2 ^ j), ← Nat.mul_assoc, Nat.add_comm, Nat.add_mul_div_right _ _ (pow_pos j), Nat.add_comm]
  constructor
  · rw [Nat.div_div_eq_div_mul, Nat.mul_comm (2 ^ j), ← Nat.div_div_eq_div_mul]
    congr 1
    omega
  · rw [e1]
    have h1 : l / 2 ^ j < 2 ^ (64 - j) := by
      rw [Nat.div_lt_iff_lt_mul (pow_pos _), ← Nat.pow_add, show 64 - j + j = 64 by omega]
      exact hl
    have h2 : h * 2 ^ (64 - j) % 2 ^ 64 = h % 2 ^ j * 2 ^ (64 - j) := by
      rw [pow_split (show j ≤ 64 by omega), Nat.mul_mod_mul_right]
    have h3 : h % 2 ^ j < 2 ^ j := Nat.mod_lt _ (pow_pos _)
    have h4 : (h % 2 ^ j + 1) * 2 ^ (64 - j) ≤ 2 ^ j * 2 ^ (64 - j) := Nat.mul_le_mul_right _ h3
    rw [← Nat.pow_add, show j + (64 - j) = 64 by omega, Nat.add_mul, Nat.one_mul, ← h2] at h4
    rw [Nat.add_mod, Nat.mod_eq_of_lt (show l / 2 ^ j < 2 ^ 64 from word_lt hl), Nat.mod_eq_of_lt (by omega)]
theorem shr_tw {h l j : Nat} (_ : h < 2 ^ 64) (hl : l < 2 ^ 64) (hj : j < 64) : twin_shr.f (h : Int) (l : Int) (j : Int) =
    some ((((h * 2 ^ 64 + l) / 2 ^ j / 2 ^ 64 : Nat) : Int), (((h * 2 ^ 64 + l) / 2 ^ j % 2 ^ 64 : Nat) : Int)) := by
  unfold twin_shr.f
  have hw : wrap64 (64 - (j : Int)) = ((64 - j : Nat) : Int) := by unfold wrap64; omega
  have hs := shr_lo (h := h) hl hj
  rw [if_neg (by omega), if_pos (by omega), hw, if_pos (by omega), shr_nat h j (by omega), shr_nat l j (by omega), shl_nat h (64 - j) (by omega), hs.1, hs.2]
  have h1 : l / 2 ^ j < 2 ^ (64 - j) := by
    rw [Nat.div_lt_iff_lt_mul (pow_pos _), ← Nat.pow_add, show 64 - j + j = 64 by omega]
    exact hl
  have h2 : h * 2 ^ (64 - j) % 2 ^ 64 % 2 ^ (64 - j) = 0 := by
    rw [pow_split (show 64 - j ≤ 64 by omega), Nat.mod_mul_right_mod, Nat.mul_mod_left]
  have h3 := or_add (h * 2 ^ (64 - j) % 2 ^ 64) (l / 2 ^ j) (64 - j) (Nat.mod_lt _ (by decide)) h1 (by omega) h2
  rw [or_nat _ _ (Nat.mod_lt _ (by decide)) (word_lt hl)] at h3
  rw [or_nat _ _ (word_lt hl) (Nat.mod_lt _ (by decide)), Nat.or_comm, h3]
theorem len_tw {h l : Nat} (hh : h < 2 ^ 64) (hl : l < 2 ^ 64) : ∃ b : Nat, b ≤ 128 ∧ twin_Len.f (h : Int) (l : Int) = some (b : Int) ∧
    ((h * 2 ^ 64 + l = 0 ∧ b = 0) ∨ (1 ≤ b ∧ 2 ^ (b - 1) ≤ h * 2 ^ 64 + l ∧ h * 2 ^ 64 + l < 2 ^ b)) := by
  unfold twin_Len.f bits_Len64.f
  rw [p64] at hh hl
  by_cases c : h = 0
  · subst c
    rw [if_neg (by omega), if_pos (by omega), Int.toNat_natCast]
    simp only [Option.bind_some]
    refine ⟨Lib.bitLen l, by have := Lib.bitLen_le l 64 (by omega) (by rw [p64]; omega); omega, rfl, ?_⟩
    by_cases c2 : l = 0
    · subst c2; left; exact ⟨rfl, bitLen_zero⟩
    · right
      obtain ⟨b1, b2, b3, b4⟩ := bitLen_bd (z := l) (by rw [p64]; omega) c2
      rw [Nat.zero_mul, Nat.zero_add]
      exact ⟨b1, b3, b4⟩
  · rw [if_pos (by omega), if_pos (by omega), Int.toNat_natCast]
    simp only [Option.bind_some]
    obtain ⟨b1, b2, b3, b4⟩ := bitLen_bd (z := h) (by rw [p64]; omega) c
    refine ⟨64 + Lib.bitLen h, by omega, ?_, .inr ⟨by omega, ?_, ?_⟩⟩
    · congr 1; unfold wrap64; omega
    · rw [show 64 + Lib.bitLen h - 1 = (Lib.bitLen h - 1) + 64 by omega, Nat.pow_add]
      generalize 2 ^ (Lib.bitLen h - 1) = q at *
      omega
    · rw [Nat.pow_add]
      generalize 2 ^ Lib.bitLen h = q at *
      omega
theorem Shl_tw {h l j : Nat} (hh : h < 2 ^ 64) (hl : l < 2 ^ 64) (hj : j ≤ 128) : ∃ b, twin_Shl.f (h : Int) (l : Int) (j : Int) =
    some ((((h * 2 ^ 64 + l) * 2 ^ j % 2 ^ 128 / 2 ^ 64 : Nat) : Int), (((h * 2 ^ 64 + l) * 2 ^ j % 2 ^ 64 : Nat) : Int), b, none) := by
  unfold twin_Shl.f
  have hm : mn (j : Int) 128 = (j : Int) := by unfold mn; rw [if_neg (by omega)]
  obtain ⟨b, _, hb, _⟩ := len_tw hh hl
  rw [if_neg (by omega), hm, shl_tw hh hl hj, hb]
  exact ⟨_, rfl⟩
theorem Shr_tw {h l j : Nat} (hh : h < 2 ^ 64) (hl : l < 2 ^ 64) (hj : j < 64) : twin_Shr.f (h : Int) (l : Int) (j : Int) =
    some ((((h * 2 ^ 64 + l) / 2 ^ j / 2 ^ 64 : Nat) : Int), (((h * 2 ^ 64 + l) / 2 ^ j % 2 ^ 64 : Nat) : Int), decide ((h * 2 ^ 64 + l) % 2 ^ j ≠ 0), none) := by
  unfold twin_Shr.f
  have hm : mn (j : Int) 128 = (j : Int) := by unfold mn; rw [if_neg (by omega)]
  have hW : h * 2 ^ 64 + l < 2 ^ 128 := by omega
  rw [if_neg (by omega), hm, shr_tw hh hl hj]
  simp only [Option.bind_some]
  generalize hWe : h * 2 ^ 64 + l = W at *
  have h1 : W / 2 ^ j < 2 ^ 128 := Nat.lt_of_le_of_lt (Nat.div_le_self _ _) hW
  rw [shl_tw (j := j) (by omega) (Nat.mod_lt _ (by decide)) (by omega)]
  simp only [Option.bind_some]
  have hd : W / 2 ^ j / 2 ^ 64 * 2 ^ 64 + W / 2 ^ j % 2 ^ 64 = W / 2 ^ j := by rw [Nat.mul_comm]; exact Nat.div_add_mod _ _
  rw [hd]
  have hdm := Nat.div_add_mod W (2 ^ j)
  rw [Nat.mul_comm] at hdm
  generalize W / 2 ^ j * 2 ^ j = X at *
  have hX : X % 2 ^ 128 = X := Nat.mod_eq_of_lt (by omega)
  rw [hX]
  congr 4
  by_cases c : W % 2 ^ j = 0
  · have e : X = h * 2 ^ 64 + l := by omega
    rw [decide_eq_false (by omega)]
    have a1 : X / 2 ^ 64 = h := by omega
    have a2 : X % 2 ^ 64 = l := by omega
    rw [a1, a2]
    simp
  · rw [decide_eq_true c]
    have : ¬ (X / 2 ^ 64 = h ∧ X % 2 ^ 64 = l) := by omega
    by_cases d : X / 2 ^ 64 = h
    · have : ((X % 2 ^ 64 : Nat) : Int) ≠ (l : Int) := by omega
      rw [beq_eq_false_iff_ne.mpr this]
      simp
    · have : ((X / 2 ^ 64 : Nat) : Int) ≠ (h : Int) := by omega
      rw [beq_eq_false_iff_ne.mpr this]
      simp
end Go.Proofs.Ytnlbfomlfhigcaa.M
namespace Go.Proofs.Ytnlbfomlfhigcaa.M
def Hi (j N : Nat) : Prop := 2 ^ j ≤ N ∧ N < 2 ^ (j + 1)
def tF (j N : Nat) : Nat := N * 2 ^ 127 / 2 ^ j
def tB (j N : Nat) : Bool := decide (N * 2 ^ 127 % 2 ^ j ≠ 0)
theorem Hi.uniq {j i N : Nat} (h : Hi j N) (h' : Hi i N) : j = i := by
  obtain ⟨a, b⟩ := h
  obtain ⟨c, d⟩ := h'
  have h1 : j < i + 1 := (Nat.pow_lt_pow_iff_right (by omega)).1 (Nat.lt_of_le_of_lt a d)
  have h2 : i < j + 1 := (Nat.pow_lt_pow_iff_right (by omega)).1 (Nat.lt_of_le_of_lt c b)
  omega
theorem Hi.mul {j N : Nat} (h : Hi j N) (c : Nat) : Hi (j + c) (N * 2 ^ c) := by
  refine ⟨?_, ?_⟩
  · rw [Nat.pow_add]
    exact Nat.mul_le_mul_right _ h.1
  · rw [show j + c + 1 = (j + 1) + c by omega, Nat.pow_add]
    exact Nat.mul_lt_mul_of_pos_right h.2 (pow_pos c)
theorem tF_mul {j N : Nat} (c : Nat) : tF (j + c) (N * 2 ^ c) = tF j N := by
  unfold tF
  rw [Nat.pow_add, Nat.mul_right_comm]
  exact Nat.mul_div_mul_right _ _ (pow_pos c)
theorem tB_mul {j N : Nat} (c : Nat) : tB (j + c) (N * 2 ^ c) = tB j N := by
  unfold tB
  rw [Nat.pow_add, Nat.mul_right_comm, Nat.mul_mod_mul_right]
  have := pow_pos c
  by_cases h : N * 2 ^ 127 % 2 ^ j = 0
  · rw [h, Nat.zero_mul]
  · have h2 : N * 2 ^ 127 % 2 ^ j * 2 ^ c ≠ 0 := Nat.mul_ne_zero h (by omega)
    rw [decide_eq_true h, decide_eq_true h2]
theorem tF_bd {j N : Nat} (h : Hi j N) : 2 ^ 127 ≤ tF j N ∧ tF j N < 2 ^ 128 := by
  unfold tF
  have hp := pow_pos j
  refine ⟨?_, ?_⟩
  · rw [Nat.le_div_iff_mul_le hp, Nat.mul_comm]
    exact Nat.mul_le_mul_right _ h.1
  · rw [Nat.div_lt_iff_lt_mul hp]
    have h2 := h.2
    rw [Nat.pow_succ] at h2
    generalize 2 ^ j = p at *
    omega
theorem top_of {N W l u v c : Nat} (he : N * 2 ^ u = W * 2 ^ v + l) (hl : l < 2 ^ (v + c)) (hc : W % 2 ^ c = 0) (hc2 : c ≤ 128) (hW : 2 ^ 255 ≤ W) (hW2 : W < 2 ^ 256) :
    u ≤ 255 + v ∧ Hi (255 + v - u) N ∧ tF (255 + v - u) N = W / 2 ^ 128 ∧ tB (255 + v - u) N = (decide (W % 2 ^ 128 ≠ 0) || decide (l ≠ 0)) := by
  have hv := pow_pos v
  have hu := pow_pos u

  have hr : W % 2 ^ 128 + 2 ^ c ≤ 2 ^ 128 := by
    have h1 : W % 2 ^ 128 % 2 ^ c = 0 := by
      rw [Nat.mod_mod_of_dvd _ (Nat.pow_dvd_pow 2 hc2)]
      exact hc
    have h2 := Nat.mod_lt W (pow_pos 128)
    have e : 2 ^ 128 = 2 ^ (128 - c) * 2 ^ c := by rw [← Nat.pow_add]; exact congrArg (2 ^ ·) (by omega)
    obtain ⟨q, hq⟩ := Nat.dvd_of_mod_eq_zero h1
    rw [hq, e] at h2 ⊢
    rw [Nat.mul_comm (2 ^ c) q] at h2 ⊢
    have h3 : q < 2 ^ (128 - c) := Nat.lt_of_mul_lt_mul_right h2
    have h4 := Nat.mul_le_mul_right (2 ^ c) (show q + 1 ≤ 2 ^ (128 - c) by omega)
    rw [Nat.add_mul, Nat.one_mul] at h4
    exact h4
  have hsm : W % 2 ^ 128 * 2 ^ v + l < 2 ^ (128 + v) := by
    have h1 := Nat.mul_le_mul_right (2 ^ v) hr
    rw [Nat.add_mul, ← Nat.pow_add, ← Nat.pow_add, Nat.add_comm c v] at h1
    omega
  have hsum : N * 2 ^ u = W / 2 ^ 128 * 2 ^ (128 + v) + (W % 2 ^ 128 * 2 ^ v + l) := by
    rw [he, Nat.pow_add 2 128 v, ← Nat.mul_assoc]
    have := Nat.div_add_mod W (2 ^ 128)
    have e : W * 2 ^ v = (W / 2 ^ 128 * 2 ^ 128) * 2 ^ v + W % 2 ^ 128 * 2 ^ v := by
      rw [← Nat.add_mul, Nat.mul_comm (W / 2 ^ 128), this]
    omega
  have hlo : 2 ^ (255 + v) ≤ N * 2 ^ u := by
    rw [Nat.pow_add, he]
    have := Nat.mul_le_mul_right (2 ^ v) hW
    omega
  have hhi : N * 2 ^ u < 2 ^ (256 + v) := by
    rw [hsum]
    have h1 : W / 2 ^ 128 + 1 ≤ 2 ^ 128 := by omega
    have h2 := Nat.mul_le_mul_right (2 ^ (128 + v)) h1
    rw [Nat.add_mul, Nat.one_mul, ← Nat.pow_add] at h2
    rw [show 256 + v = 128 + (128 + v) by omega]
    omega
  have hN : N ≠ 0 := by
    intro h0
    rw [h0, Nat.zero_mul] at hlo
    have := pow_pos (255 + v)
    omega
  have hu2 : u ≤ 255 + v := by
    refine Nat.le_of_not_lt fun h => ?_
    have h1 : 2 ^ (256 + v) ≤ 2 ^ u := pow_le (by omega)
    have h2 : 2 ^ u ≤ N * 2 ^ u := Nat.le_mul_of_pos_left _ (by omega)
    omega
  have hj : (255 + v - u) + u = 255 + v := by omega
  have hHi : Hi (255 + v - u) N := by
    refine ⟨?_, ?_⟩
    · refine Nat.le_of_mul_le_mul_right (c := 2 ^ u) ?_ hu
      rw [← Nat.pow_add, hj]
      exact hlo
    · refine Nat.lt_of_mul_lt_mul_right (a := 2 ^ u) ?_
      rw [← Nat.pow_add, show 255 + v - u + 1 + u = 256 + v by omega]
      exact hhi
  have hpw : 2 ^ (255 + v) = 2 ^ 127 * 2 ^ (128 + v) := by rw [← Nat.pow_add]; exact congrArg (2 ^ ·) (by omega)
  refine ⟨hu2, hHi, ?_, ?_⟩
  · rw [← tF_mul u, hj]
    unfold tF
    rw [hpw, Nat.mul_comm _ (2 ^ 127), Nat.mul_div_mul_left _ _ (pow_pos 127), hsum]
    rw [Nat.mul_comm, Nat.mul_add_div (pow_pos _), Nat.div_eq_of_lt hsm, Nat.add_zero]
  · rw [← tB_mul u, hj]
    unfold tB
    rw [hpw, Nat.mul_comm _ (2 ^ 127), Nat.mul_mod_mul_left, hsum]
    rw [Nat.mul_comm (W / 2 ^ 128), Nat.mul_add_mod, Nat.mod_eq_of_lt hsm]
    have p127 := pow_pos 127
    clear hsm hsum hlo hhi hpw hr hHi hc hW hW2 he
    generalize 2 ^ 127 = t at *
    generalize W % 2 ^ 128 = r at *
    by_cases h1 : r = 0
    · rw [h1, Nat.zero_mul, Nat.zero_add]
      by_cases h2 : l = 0
      · rw [h2]
        simp
      · have : t * l ≠ 0 := Nat.mul_ne_zero (by omega) h2
        rw [decide_eq_true this, decide_eq_true h2]
        simp
    · have h3 : r * 2 ^ v ≠ 0 := Nat.mul_ne_zero h1 (by omega)
      have : t * (r * 2 ^ v + l) ≠ 0 := Nat.mul_ne_zero (by omega) (by omega)
      rw [decide_eq_true this, decide_eq_true h1]
      simp
theorem top_aux {X Y p : Nat} (h2 : X ≤ Y) : 2 * (X / p) + (decide (X % p ≠ 0)).toNat ≤ 2 * (Y / p) + (decide (Y % p ≠ 0)).toNat := by
  have h3 : X / p ≤ Y / p := Nat.div_le_div_right h2
  by_cases e : X / p = Y / p
  · have e1 := Nat.div_add_mod X p
    have e2 := Nat.div_add_mod Y p
    rw [e] at e1 ⊢
    generalize p * (Y / p) = q at e1 e2
    by_cases z : X % p = 0
    · rw [decide_eq_false (show ¬ X % p ≠ 0 by omega)]
      simp
    · rw [decide_eq_true (show Y % p ≠ 0 by omega)]
      simp [z]
  · have := toNat_le (decide (X % p ≠ 0))
    omega
theorem top_mono {j i N M : Nat} (h : Hi j N) (h' : Hi i M) (hle : N ≤ M) : j < i ∨ (j = i ∧ 2 * tF j N + (tB j N).toNat ≤ 2 * tF i M + (tB i M).toNat) := by
  have h1 : j < i + 1 := (Nat.pow_lt_pow_iff_right (by omega)).1 (Nat.lt_of_le_of_lt (Nat.le_trans h.1 hle) h'.2)
  by_cases e : j = i
  · subst e
    refine .inr ⟨rfl, ?_⟩
    exact top_aux (Nat.mul_le_mul_right (2 ^ 127) hle)
  · exact .inl (by omega)
end Go.Proofs.Ytnlbfomlfhigcaa.M
namespace Go.Proofs.Ytnlbfomlfhigcaa.M
open Go.RowKit Go.Proofs.YtnlbfomlfhigcaaW.PrintWords Go.Proofs.YtnlbfomlfhigcaaW.PrintLast Go.Proofs.YtnlbfomlfhigcaaW.PrintMore Go.Proofs.Ytnlbfomlfhigcaa.Q
def q4 (a b c d : Nat) : Nat := ((a * 2 ^ 64 + b) * 2 ^ 64 + c) * 2 ^ 64 + d
theorem q4_lt {a b c d : Nat} (ha : a < 2 ^ 64) (hb : b < 2 ^ 64) (hc : c < 2 ^ 64) (hd : d < 2 ^ 64) : q4 a b c d < 2 ^ 256 := by
  unfold q4
  omega
theorem w64_nat {a : Nat} (h : a < 2 ^ 64) : w64 (a : Int) := by
  unfold w64
  omega
theorem addW_nat (x y c : Nat) : addW (x : Int) (y : Int) (c : Int) = ((((x + y + c) % 2 ^ 64 : Nat) : Int), (((x + y + c) / 2 ^ 64 : Nat) : Int)) := by
  unfold addW
  ext <;> simp
theorem plus_val {a b c d a' b' c' d' : Nat} (ha : a < 2 ^ 64) (hb : b < 2 ^ 64) (hc : c < 2 ^ 64) (hd : d < 2 ^ 64) (ha' : a' < 2 ^ 64) (hb' : b' < 2 ^ 64) (hc' : c' < 2 ^ 64) (hd' : d' < 2 ^ 64) :
    ∃ e f g h o : Nat, broad_wide_plus.f (a : Int) (b : Int) (c : Int) (d : Int) (a' : Int) (b' : Int) (c' : Int) (d' : Int) = some ((e : Int), (f : Int), (g : Int), (h : Int), (o : Int)) ∧
      e < 2 ^ 64 ∧ f < 2 ^ 64 ∧ g < 2 ^ 64 ∧ h < 2 ^ 64 ∧ o ≤ 1 ∧ q4 e f g h + o * 2 ^ 256 = q4 a b c d + q4 a' b' c' d' := by
  have h0 : (0 : Int) = ((0 : Nat) : Int) := rfl
  refine ⟨_, _, _, _, _, ?_, Nat.mod_lt (a + a' + (b + b' + (c + c' + (d + d' + 0) / 2 ^ 64) / 2 ^ 64) / 2 ^ 64) (by decide), Nat.mod_lt (b + b' + (c + c' + (d + d' + 0) / 2 ^ 64) / 2 ^ 64) (by decide), Nat.mod_lt (c + c' + (d + d' + 0) / 2 ^ 64) (by decide), Nat.mod_lt (d + d' + 0) (by decide), (show (a + a' + (b + b' + (c + c' + (d + d' + 0) / 2 ^ 64) / 2 ^ 64) / 2 ^ 64) / 2 ^ 64 ≤ 1 by omega), ?_⟩
  · unfold broad_wide_plus.f
    rw [if_pos ⟨w64_nat ha, w64_nat hb, w64_nat hc, w64_nat hd, w64_nat ha', w64_nat hb', w64_nat hc', w64_nat hd'⟩, h0]
    simp only [addW_nat]
  · unfold q4
    omega
theorem subW_nat {x y c : Nat} (hx : x < 2 ^ 64) (hy : y < 2 ^ 64) (hc : c ≤ 1) : subW (x : Int) (y : Int) (c : Int) = ((((x + 2 ^ 64 - y - c) % 2 ^ 64 : Nat) : Int), (((if x < y + c then 1 else 0 : Nat)) : Int)) := by
  unfold subW
  ext
  · simp only
    omega
  · simp only
    by_cases h : x < y + c
    · rw [if_pos h, if_pos (by omega)]
      rfl
    · rw [if_neg h, if_neg (by omega)]
      rfl
theorem less_val {a b c d a' b' c' d' o : Nat} (ha : a < 2 ^ 64) (hb : b < 2 ^ 64) (hc : c < 2 ^ 64) (hd : d < 2 ^ 64) (ha' : a' < 2 ^ 64) (hb' : b' < 2 ^ 64) (hc' : c' < 2 ^ 64) (hd' : d' < 2 ^ 64) (ho : o ≤ 1) :
    ∃ e f g h p : Nat, broad_wide_less.f (a : Int) (b : Int) (c : Int) (d : Int) (a' : Int) (b' : Int) (c' : Int) (d' : Int) (o : Int) = some ((e : Int), (f : Int), (g : Int), (h : Int), (p : Int)) ∧
      e < 2 ^ 64 ∧ f < 2 ^ 64 ∧ g < 2 ^ 64 ∧ h < 2 ^ 64 ∧ p ≤ 1 ∧ q4 e f g h + q4 a' b' c' d' + o = q4 a b c d + p * 2 ^ 256 := by
  have hp1 : (if d < d' + o then 1 else 0 : Nat) ≤ 1 := by split <;> omega
  generalize hP1 : (if d < d' + o then 1 else 0 : Nat) = p1 at hp1
  have hp2 : (if c < c' + p1 then 1 else 0 : Nat) ≤ 1 := by split <;> omega
  generalize hP2 : (if c < c' + p1 then 1 else 0 : Nat) = p2 at hp2
  have hp3 : (if b < b' + p2 then 1 else 0 : Nat) ≤ 1 := by split <;> omega
  generalize hP3 : (if b < b' + p2 then 1 else 0 : Nat) = p3 at hp3
  have hp4 : (if a < a' + p3 then 1 else 0 : Nat) ≤ 1 := by split <;> omega
  generalize hP4 : (if a < a' + p3 then 1 else 0 : Nat) = p4 at hp4
  refine ⟨(a + 2 ^ 64 - a' - p3) % 2 ^ 64, (b + 2 ^ 64 - b' - p2) % 2 ^ 64, (c + 2 ^ 64 - c' - p1) % 2 ^ 64, (d + 2 ^ 64 - d' - o) % 2 ^ 64, p4, ?_, Nat.mod_lt _ (by decide), Nat.mod_lt _ (by decide), Nat.mod_lt _ (by decide), Nat.mod_lt _ (by decide), hp4, ?_⟩
  · unfold broad_wide_less.f
    rw [if_pos ⟨w64_nat ha, w64_nat hb, w64_nat hc, w64_nat hd, w64_nat ha', w64_nat hb', w64_nat hc', w64_nat hd', by omega, by omega⟩]
    rw [subW_nat hd hd' ho, hP1]
    simp only
    rw [subW_nat hc hc' hp1, hP2]
    simp only
    rw [subW_nat hb hb' hp2, hP3]
    simp only
    rw [subW_nat ha ha' hp3, hP4]
  · have e1 : (d + 2 ^ 64 - d' - o) % 2 ^ 64 + d' + o = d + p1 * 2 ^ 64 := by
      rw [← hP1]; split <;> omega
    have e2 : (c + 2 ^ 64 - c' - p1) % 2 ^ 64 + c' + p1 = c + p2 * 2 ^ 64 := by
      rw [← hP2]; split <;> omega
    have e3 : (b + 2 ^ 64 - b' - p2) % 2 ^ 64 + b' + p2 = b + p3 * 2 ^ 64 := by
      rw [← hP3]; split <;> omega
    have e4 : (a + 2 ^ 64 - a' - p3) % 2 ^ 64 + a' + p3 = a + p4 * 2 ^ 64 := by
      rw [← hP4]; split <;> omega
    clear hP1 hP2 hP3 hP4
    generalize (d + 2 ^ 64 - d' - o) % 2 ^ 64 = x1 at *
    generalize (c + 2 ^ 64 - c' - p1) % 2 ^ 64 = x2 at *
    generalize (b + 2 ^ 64 - b' - p2) % 2 ^ 64 = x3 at *
    generalize (a + 2 ^ 64 - a' - p3) % 2 ^ 64 = x4 at *
    unfold q4
    omega
end Go.Proofs.Ytnlbfomlfhigcaa.M
namespace Go.Proofs.Ytnlbfomlfhigcaa.M
open Go.RowKit Go.Proofs.YtnlbfomlfhigcaaW.PrintWords Go.Proofs.YtnlbfomlfhigcaaW.PrintLast Go.Proofs.YtnlbfomlfhigcaaW.PrintMore Go.Proofs.Ytnlbfomlfhigcaa.Q
theorem sh1 (H L : Nat) {n : Nat} (hn : n ≤ 64) : (H * 2 ^ 64 + L) / 2 ^ n = H / 2 ^ n * 2 ^ 64 + (H % 2 ^ n * 2 ^ (64 - n) + L / 2 ^ n) := by
  have e : H * 2 ^ 64 + L = 2 ^ n * (H / 2 ^ n * 2 ^ 64 + H % 2 ^ n * 2 ^ (64 - n)) + L := by
    have h1 := Nat.div_add_mod H (2 ^ n)
    have h2 : 2 ^ 64 = 2 ^ n * 2 ^ (64 - n) := pow_split hn
    have h3 : H * 2 ^ 64 = 2 ^ n * (H / 2 ^ n) * 2 ^ 64 + H % 2 ^ n * 2 ^ 64 := by rw [← Nat.add_mul, h1]
    have h4 : H % 2 ^ n * 2 ^ 64 = 2 ^ n * (H % 2 ^ n * 2 ^ (64 - n)) := by rw [h2, Nat.mul_left_comm]
    rw [h3, h4, Nat.mul_add, Nat.mul_assoc]
  rw [e, Nat.mul_add_div (pow_pos n), Nat.add_assoc]
theorem or_words {x y n : Nat} (_ : x < 2 ^ 64) (hy : y < 2 ^ 64) (h1 : 1 ≤ n) (h2 : n ≤ 63) : Go.bits .or .u64 (shr .u64 (y : Int) (n : Int)) (shl .u64 (x : Int) ((64 - n : Nat) : Int)) = ((x % 2 ^ n * 2 ^ (64 - n) + y / 2 ^ n : Nat) : Int) := by
  rw [shr_nat y n (by omega), shl_nat x (64 - n) (by omega)]
  have h3 : y / 2 ^ n < 2 ^ (64 - n) := by
    rw [Nat.div_lt_iff_lt_mul (pow_pos _), ← Nat.pow_add, show 64 - n + n = 64 by omega]
    exact hy
  have h4 : x * 2 ^ (64 - n) % 2 ^ 64 % 2 ^ (64 - n) = 0 := by
    rw [pow_split (show 64 - n ≤ 64 by omega), Nat.mod_mul_right_mod, Nat.mul_mod_left]
  have h5 := or_add (x * 2 ^ (64 - n) % 2 ^ 64) (y / 2 ^ n) (64 - n) (Nat.mod_lt _ (by decide)) h3 (by omega) h4
  rw [or_nat _ _ (Nat.mod_lt _ (by decide)) (word_lt hy)] at h5
  rw [or_nat _ _ (word_lt hy) (Nat.mod_lt _ (by decide)), Nat.or_comm, h5]
  have h6 : x * 2 ^ (64 - n) % 2 ^ 64 = x % 2 ^ n * 2 ^ (64 - n) := by
    rw [show (2 : Nat) ^ 64 = 2 ^ n * 2 ^ (64 - n) from pow_split (by omega), Nat.mul_mod_mul_right]
  rw [h6]
theorem part_lt {x y n : Nat} (hy : y < 2 ^ 64) (h2 : n ≤ 64) : x % 2 ^ n * 2 ^ (64 - n) + y / 2 ^ n < 2 ^ 64 := by
  have h3 : y / 2 ^ n < 2 ^ (64 - n) := by
    rw [Nat.div_lt_iff_lt_mul (pow_pos _), ← Nat.pow_add, show 64 - n + n = 64 by omega]
    exact hy
  have h4 := Nat.mod_lt x (pow_pos n)
  have h5 := Nat.mul_le_mul_right (2 ^ (64 - n)) (show x % 2 ^ n + 1 ≤ 2 ^ n by omega)
  rw [← Nat.pow_add, show n + (64 - n) = 64 by omega, Nat.add_mul, Nat.one_mul] at h5
  omega
theorem q4_mod {a b c d n : Nat} (hn : n ≤ 64) : q4 a b c d % 2 ^ n = d % 2 ^ n := by
  unfold q4
  rw [pow_split hn, Nat.mul_comm (2 ^ n), ← Nat.mul_assoc, Nat.add_comm, Nat.add_mul_mod_self_right]
theorem under_last {a b c d n : Nat} (ha : a < 2 ^ 64) (hb : b < 2 ^ 64) (hc : c < 2 ^ 64) (hd : d < 2 ^ 64) (h1 : 1 ≤ n) (h2 : n ≤ 63) (lost : Bool) (k : Nat) :
    ∃ a' b' c' d' : Nat, broad_wide_under.l0 (k + 1) (n : Int) lost (a : Int) (b : Int) (c : Int) (d : Int) = some ((a' : Int), (b' : Int), (c' : Int), (d' : Int), (lost || decide (q4 a b c d % 2 ^ n ≠ 0))) ∧
      a' < 2 ^ 64 ∧ b' < 2 ^ 64 ∧ c' < 2 ^ 64 ∧ d' < 2 ^ 64 ∧ q4 a' b' c' d' = q4 a b c d / 2 ^ n := by
  have hw : wrap64 (64 - (n : Int)) = ((64 - n : Nat) : Int) := by unfold wrap64; omega
  refine ⟨a / 2 ^ n, a % 2 ^ n * 2 ^ (64 - n) + b / 2 ^ n, b % 2 ^ n * 2 ^ (64 - n) + c / 2 ^ n, c % 2 ^ n * 2 ^ (64 - n) + d / 2 ^ n, ?_, word_lt ha, part_lt hb (by omega), part_lt hc (by omega), part_lt hd (by omega), ?_⟩
  · rw [broad_wide_under.l0, if_neg (by omega), if_neg (by omega), hw, or_words ha hb h1 h2, or_words hb hc h1 h2, or_words hc hd h1 h2, shr_nat a n (by omega), q4_mod (by omega)]
    cases lost
    · rw [if_neg (by decide), if_pos (by omega), if_pos (by omega), shl_nat d (64 - n) (by omega)]
      have h6 : d * 2 ^ (64 - n) % 2 ^ 64 = d % 2 ^ n * 2 ^ (64 - n) := by
        rw [show (2 : Nat) ^ 64 = 2 ^ n * 2 ^ (64 - n) from pow_split (by omega), Nat.mul_mod_mul_right]
      rw [h6]
      have h7 : ((((d % 2 ^ n * 2 ^ (64 - n) : Nat) : Int) != 0) : Bool) = (false || decide (d % 2 ^ n ≠ 0)) := by
        have hp := pow_pos (64 - n)
        by_cases z : d % 2 ^ n = 0
        · rw [z]
          simp
        · have := Nat.mul_ne_zero z (show 2 ^ (64 - n) ≠ 0 by omega)
          rw [decide_eq_true z]
          simp only [Bool.or_true, bne_iff_ne, ne_eq]
          omega
      rw [h7]
    · rw [if_pos rfl, if_pos (by omega), if_pos (by omega)]
      rfl
  · unfold q4
    rw [sh1 _ d (by omega), sh1 _ c (by omega), sh1 a b (by omega)]
    have m1 : ((a * 2 ^ 64 + b) * 2 ^ 64 + c) % 2 ^ n = c % 2 ^ n := by
      rw [pow_split (show n ≤ 64 by omega), Nat.mul_comm (2 ^ n), ← Nat.mul_assoc, Nat.add_comm, Nat.add_mul_mod_self_right]
    have m2 : (a * 2 ^ 64 + b) % 2 ^ n = b % 2 ^ n := by
      rw [pow_split (show n ≤ 64 by omega), Nat.mul_comm (2 ^ n), ← Nat.mul_assoc, Nat.add_comm, Nat.add_mul_mod_self_right]
    rw [m1, m2]
theorem under_l0 (k : Nat) : ∀ (t x : Nat) (lost : Bool) (a b c d : Nat), t ≤ 10 → x < 64 * (t + 1) → a < 2 ^ 64 → b < 2 ^ 64 → c < 2 ^ 64 → d < 2 ^ 64 →
    ∃ a' b' c' d' : Nat, broad_wide_under.l0 (k + t + 1) (x : Int) lost (a : Int) (b : Int) (c : Int) (d : Int) = some ((a' : Int), (b' : Int), (c' : Int), (d' : Int), (lost || decide (q4 a b c d % 2 ^ x ≠ 0))) ∧
      a' < 2 ^ 64 ∧ b' < 2 ^ 64 ∧ c' < 2 ^ 64 ∧ d' < 2 ^ 64 ∧ q4 a' b' c' d' = q4 a b c d / 2 ^ x := by
  intro t
  have small : ∀ (k x : Nat) (lost : Bool) (a b c d : Nat), x < 64 → a < 2 ^ 64 → b < 2 ^ 64 → c < 2 ^ 64 → d < 2 ^ 64 →
    ∃ a' b' c' d' : Nat, broad_wide_under.l0 (k + 1) (x : Int) lost (a : Int) (b : Int) (c : Int) (d : Int) = some ((a' : Int), (b' : Int), (c' : Int), (d' : Int), (lost || decide (q4 a b c d % 2 ^ x ≠ 0))) ∧
      a' < 2 ^ 64 ∧ b' < 2 ^ 64 ∧ c' < 2 ^ 64 ∧ d' < 2 ^ 64 ∧ q4 a' b' c' d' = q4 a b c d / 2 ^ x := by
    intro k x lost a b c d hx ha hb hc hd
    by_cases h0 : x = 0
    · subst h0
      refine ⟨a, b, c, d, ?_, ha, hb, hc, hd, by rw [Nat.pow_zero, Nat.div_one]⟩
      rw [broad_wide_under.l0, if_neg (by omega), if_pos (by omega), Nat.pow_zero, Nat.mod_one]
      simp
    · exact under_last ha hb hc hd (by omega) (by omega) lost k
  induction t with
  | zero =>
    intro x lost a b c d _ hx
    exact small k x lost a b c d (by omega)
  | succ t ih =>
    intro x lost a b c d ht hx ha hb hc hd
    by_cases h64 : x < 64
    · exact small (k + (t + 1)) x lost a b c d h64 ha hb hc hd
    · have hw : wrap64 ((x : Int) - 64) = ((x - 64 : Nat) : Int) := by unfold wrap64; omega
      obtain ⟨a', b', c', d', e, r1, r2, r3, r4, r5⟩ := ih (x - 64) (lost || decide (d ≠ 0)) 0 a b c (by omega) (by omega) (by decide) ha hb hc
      have hx2 : 2 ^ x = 2 ^ 64 * 2 ^ (x - 64) := pow_split (by omega)
      have hq : q4 a b c d = q4 0 a b c * 2 ^ 64 + d := by unfold q4; omega
      refine ⟨a', b', c', d', ?_, r1, r2, r3, r4, ?_⟩
      · rw [show k + (t + 1) + 1 = (k + t + 1) + 1 by omega, broad_wide_under.l0, if_pos (by omega), hw]
        have hb2 : (lost || decide (q4 a b c d % 2 ^ x ≠ 0)) = ((lost || decide (d ≠ 0)) || decide (q4 0 a b c % 2 ^ (x - 64) ≠ 0)) := by
          rw [hx2, Nat.mod_mul, hq]
          have e1 : (q4 0 a b c * 2 ^ 64 + d) % 2 ^ 64 = d := by omega
          have e2 : (q4 0 a b c * 2 ^ 64 + d) / 2 ^ 64 = q4 0 a b c := by omega
          rw [e1, e2]
          generalize q4 0 a b c % 2 ^ (x - 64) = z
          cases lost
          · rw [Bool.false_or, Bool.false_or, ← Bool.decide_or]
            exact decide_eq_decide.mpr (by omega)
          · simp
        rw [hb2]
        cases lost
        · rw [if_neg (by decide)]
          have e3 : (((d : Int) != 0) : Bool) = (false || decide (d ≠ 0)) := by
            by_cases z : d = 0
            · subst z; rfl
            · rw [decide_eq_true z]
              simp only [Bool.or_true, bne_iff_ne, ne_eq]
              omega
          rw [e3]
          exact e
        · rw [if_pos rfl]
          rw [Bool.true_or] at e ⊢
          exact e
      · have e2 : (q4 0 a b c * 2 ^ 64 + d) / 2 ^ 64 = q4 0 a b c := by omega
        rw [r5, hx2, ← Nat.div_div_eq_div_mul, hq, e2]
theorem under_val {a b c d x : Nat} (ha : a < 2 ^ 64) (hb : b < 2 ^ 64) (hc : c < 2 ^ 64) (hd : d < 2 ^ 64) (k : Nat) :
    ∃ a' b' c' d' : Nat, broad_wide_under.f (k + 4) (a : Int) (b : Int) (c : Int) (d : Int) (x : Int) = some ((a' : Int), (b' : Int), (c' : Int), (d' : Int), decide (q4 a b c d % 2 ^ x ≠ 0)) ∧
      a' < 2 ^ 64 ∧ b' < 2 ^ 64 ∧ c' < 2 ^ 64 ∧ d' < 2 ^ 64 ∧ q4 a' b' c' d' = q4 a b c d / 2 ^ x := by
  unfold broad_wide_under.f
  by_cases h : 256 ≤ x
  · have hq := q4_lt ha hb hc hd
    have hp : 2 ^ 256 ≤ 2 ^ x := pow_le h
    refine ⟨0, 0, 0, 0, ?_, by decide, by decide, by decide, by decide, ?_⟩
    · rw [if_pos (by omega), Nat.mod_eq_of_lt (Nat.lt_of_lt_of_le hq hp)]
      have : (!((a : Int) == 0) || (!((b : Int) == 0) || (!((c : Int) == 0) || (!((d : Int) == 0))))) = decide (q4 a b c d ≠ 0) := by
        rw [Bool.eq_iff_iff]
        simp only [Bool.or_eq_true, Bool.not_eq_true', beq_eq_false_iff_ne, ne_eq, decide_eq_true_eq]
        unfold q4
        omega
      rw [this]
      rfl
    · rw [Nat.div_eq_of_lt (Nat.lt_of_lt_of_le hq hp)]
      rfl
  · rw [if_neg (by omega)]
    have := under_l0 k 3 x false a b c d (by omega) (by omega) ha hb hc hd
    simpa only [Bool.false_or] using this
theorem upW_nat {x y n : Nat} (_ : x < 2 ^ 64) (hy : y < 2 ^ 64) (h1 : 1 ≤ n) (h2 : n ≤ 63) : upW (x : Int) (y : Int) (n : Int) = ((x * 2 ^ n % 2 ^ 64 + y / 2 ^ (64 - n) : Nat) : Int) := by
  unfold upW
  have e1 : (64 - (n : Int)).toNat = 64 - n := by omega
  have e2 : IntKind.u64.wrap ((x : Int) * 2 ^ ((n : Int)).toNat) = ((x * 2 ^ n % 2 ^ 64 : Nat) : Int) := by
    rw [u64w, Int.toNat_natCast, cast_pow]
    rw [← Int.natCast_mul]
    omega
  have e3 : (y : Int) / 2 ^ (64 - n) = ((y / 2 ^ (64 - n) : Nat) : Int) := by
    rw [cast_pow]
    rfl
  rw [e1, e2, e3]
  have h3 : y / 2 ^ (64 - n) < 2 ^ n := by
    rw [Nat.div_lt_iff_lt_mul (pow_pos _), ← Nat.pow_add, show n + (64 - n) = 64 by omega]
    exact hy
  have h4 : x * 2 ^ n % 2 ^ 64 % 2 ^ n = 0 := by
    rw [pow_split (show n ≤ 64 by omega), Nat.mod_mul_right_mod, Nat.mul_mod_left]
  exact or_add _ _ n (Nat.mod_lt _ (by decide)) h3 (by omega) h4
theorem up_part {y n : Nat} (h2 : n ≤ 64) : y * 2 ^ n = y / 2 ^ (64 - n) * 2 ^ 64 + y * 2 ^ n % 2 ^ 64 := by
  have h := Nat.div_add_mod (y * 2 ^ n) (2 ^ 64)
  have e : y * 2 ^ n / 2 ^ 64 = y / 2 ^ (64 - n) := by
    rw [show (2 : Nat) ^ 64 = 2 ^ (64 - n) * 2 ^ n by rw [← Nat.pow_add]; exact congrArg (2 ^ ·) (by omega)]
    exact Nat.mul_div_mul_right _ _ (pow_pos n)
  rw [e, Nat.mul_comm] at h
  exact h.symm
theorem q4_aux {A B C D b1 c1 d1 : Nat} (pa : A = 0 * 2 ^ 64 + A % 2 ^ 64) (pb : B = b1 * 2 ^ 64 + B % 2 ^ 64) (pc : C = c1 * 2 ^ 64 + C % 2 ^ 64) (pd : D = d1 * 2 ^ 64 + D % 2 ^ 64) :
    q4 (A % 2 ^ 64 + b1) (B % 2 ^ 64 + c1) (C % 2 ^ 64 + d1) (D % 2 ^ 64) = ((A * 2 ^ 64 + B) * 2 ^ 64 + C) * 2 ^ 64 + D := by
  unfold q4
  omega
theorem q4_up {a b c d n : Nat} (ha : a < 2 ^ (64 - n)) (hn : n ≤ 64) :
    q4 (a * 2 ^ n % 2 ^ 64 + b / 2 ^ (64 - n)) (b * 2 ^ n % 2 ^ 64 + c / 2 ^ (64 - n)) (c * 2 ^ n % 2 ^ 64 + d / 2 ^ (64 - n)) (d * 2 ^ n % 2 ^ 64) = q4 a b c d * 2 ^ n := by
  have pa := up_part (y := a) hn
  have pb := up_part (y := b) hn
  have pc := up_part (y := c) hn
  have pd := up_part (y := d) hn
  rw [Nat.div_eq_of_lt ha] at pa
  have e : q4 a b c d * 2 ^ n = ((a * 2 ^ n * 2 ^ 64 + b * 2 ^ n) * 2 ^ 64 + c * 2 ^ n) * 2 ^ 64 + d * 2 ^ n := by
    unfold q4
    simp only [Nat.add_mul]
    simp only [Nat.mul_right_comm _ (2 ^ 64) (2 ^ n)]
  rw [e]
  exact q4_aux pa pb pc pd
theorem raisedW_val {a b c d : Nat} (ha : a < 2 ^ 64) (hb : b < 2 ^ 64) (hc : c < 2 ^ 64) (hd : d < 2 ^ 64) (h0 : a ≠ 0) (j : Nat) :
    ∃ a' b' c' d' s : Nat, raisedW (a : Int) (b : Int) (c : Int) (d : Int) (j : Int) = ((a' : Int), (b' : Int), (c' : Int), (d' : Int), ((j + s : Nat) : Int)) ∧
      a' < 2 ^ 64 ∧ b' < 2 ^ 64 ∧ c' < 2 ^ 64 ∧ d' < 2 ^ 64 ∧ s ≤ 63 ∧ 2 ^ 63 ≤ a' ∧ q4 a' b' c' d' = q4 a b c d * 2 ^ s := by
  obtain ⟨l1, l2, l3, l4⟩ := bitLen_bd ha h0
  unfold raisedW
  rw [Int.toNat_natCast]
  by_cases z : Lib.bitLen a = 64
  · rw [z] at l3
    refine ⟨a, b, c, d, 0, ?_, ha, hb, hc, hd, by omega, by simpa using l3, by rw [Nat.pow_zero, Nat.mul_one]⟩
    rw [if_pos (by omega)]
    rfl
  · have hs : 64 - (Lib.bitLen a : Int) = ((64 - Lib.bitLen a : Nat) : Int) := by omega
    rw [if_neg (by omega), hs]
    generalize hn : 64 - Lib.bitLen a = n
    have hn1 : 1 ≤ n := by omega
    have hn2 : n ≤ 63 := by omega
    have ha2 : a < 2 ^ (64 - n) := by rw [show 64 - n = Lib.bitLen a by omega]; exact l4
    have ha3 : 2 ^ (63 - n) ≤ a := by rw [show 63 - n = Lib.bitLen a - 1 by omega]; exact l3
    have ea : a * 2 ^ n % 2 ^ 64 = a * 2 ^ n := by
      refine Nat.mod_eq_of_lt ?_
      have := Nat.mul_lt_mul_of_pos_right ha2 (pow_pos n)
      rw [← Nat.pow_add, show 64 - n + n = 64 by omega] at this
      exact this
    have ea2 : 2 ^ 63 ≤ a * 2 ^ n := by
      have := Nat.mul_le_mul_right (2 ^ n) ha3
      rw [← Nat.pow_add, show 63 - n + n = 63 by omega] at this
      exact this
    have hlt : ∀ x y : Nat, y < 2 ^ 64 → x * 2 ^ n % 2 ^ 64 + y / 2 ^ (64 - n) < 2 ^ 64 := by
      intro x y hy
      have h3 : y / 2 ^ (64 - n) < 2 ^ n := by
        rw [Nat.div_lt_iff_lt_mul (pow_pos _), ← Nat.pow_add, show n + (64 - n) = 64 by omega]
        exact hy
      have h4 : x * 2 ^ n % 2 ^ 64 = x % 2 ^ (64 - n) * 2 ^ n := by
        rw [show (2 : Nat) ^ 64 = 2 ^ (64 - n) * 2 ^ n by rw [← Nat.pow_add]; exact congrArg (2 ^ ·) (by omega), Nat.mul_mod_mul_right]
      have h5 := Nat.mod_lt x (pow_pos (64 - n))
      have h6 := Nat.mul_le_mul_right (2 ^ n) (show x % 2 ^ (64 - n) + 1 ≤ 2 ^ (64 - n) by omega)
      rw [← Nat.pow_add, show 64 - n + n = 64 by omega, Nat.add_mul, Nat.one_mul] at h6
      omega
    refine ⟨a * 2 ^ n % 2 ^ 64 + b / 2 ^ (64 - n), b * 2 ^ n % 2 ^ 64 + c / 2 ^ (64 - n), c * 2 ^ n % 2 ^ 64 + d / 2 ^ (64 - n), d * 2 ^ n % 2 ^ 64, n, ?_, hlt a b hb, hlt b c hc, hlt c d hd, Nat.mod_lt _ (by decide), hn2, by rw [ea]; exact Nat.le_trans ea2 (Nat.le_add_right _ _), q4_up ha2 (by omega)⟩
    rw [upW_nat ha hb hn1 hn2, upW_nat hb hc hn1 hn2, upW_nat hc hd hn1 hn2]
    have e2 : IntKind.u64.wrap ((d : Int) * 2 ^ ((n : Int)).toNat) = ((d * 2 ^ n % 2 ^ 64 : Nat) : Int) := by
      rw [u64w, Int.toNat_natCast, cast_pow]
      rw [← Int.natCast_mul]
      omega
    rw [e2]
    rfl
theorem raised_val {a b c d : Nat} (ha : a < 2 ^ 64) (hb : b < 2 ^ 64) (hc : c < 2 ^ 64) (hd : d < 2 ^ 64) (h0 : q4 a b c d ≠ 0) :
    ∃ a' b' c' d' s : Nat, broad_wide_raised.f (a : Int) (b : Int) (c : Int) (d : Int) = some ((a' : Int), (b' : Int), (c' : Int), (d' : Int), (s : Int)) ∧
      a' < 2 ^ 64 ∧ b' < 2 ^ 64 ∧ c' < 2 ^ 64 ∧ d' < 2 ^ 64 ∧ s ≤ 255 ∧ 2 ^ 63 ≤ a' ∧ q4 a' b' c' d' = q4 a b c d * 2 ^ s := by
  unfold broad_wide_raised.f
  rw [if_pos ⟨w64_nat ha, w64_nat hb, w64_nat hc, w64_nat hd⟩]
  have hsh : ∀ (x y z s : Nat), q4 0 x y z * 2 ^ (64 + s) = q4 x y z 0 * 2 ^ s := by
    intro x y z s
    have e : q4 0 x y z * 2 ^ 64 = q4 x y z 0 := by
      unfold q4
      omega
    rw [Nat.pow_add, ← Nat.mul_assoc, e]
  by_cases z0 : a = 0
  · subst z0
    rw [if_pos (by rfl)]
    by_cases z1 : b = 0
    · subst z1
      rw [if_pos (by rfl)]
      by_cases z2 : c = 0
      · subst z2
        rw [if_pos (by rfl)]
        by_cases z3 : d = 0
        · subst z3
          exact absurd rfl h0
        · rw [if_neg (by omega)]
          obtain ⟨a', b', c', d', s, e, r1, r2, r3, r4, r5, r6, r7⟩ := raisedW_val hd (show 0 < 2 ^ 64 by decide) (show 0 < 2 ^ 64 by decide) (show 0 < 2 ^ 64 by decide) z3 192
          refine ⟨a', b', c', d', 192 + s, congrArg some e, r1, r2, r3, r4, by omega, r6, ?_⟩
          rw [r7, show 192 + s = 64 + (64 + (64 + s)) by omega, hsh, hsh, hsh]
      · rw [if_neg (by omega)]
        obtain ⟨a', b', c', d', s, e, r1, r2, r3, r4, r5, r6, r7⟩ := raisedW_val hc hd (show 0 < 2 ^ 64 by decide) (show 0 < 2 ^ 64 by decide) z2 128
        refine ⟨a', b', c', d', 128 + s, congrArg some e, r1, r2, r3, r4, by omega, r6, ?_⟩
        rw [r7, show 128 + s = 64 + (64 + s) by omega, hsh, hsh]
    · rw [if_neg (by omega)]
      obtain ⟨a', b', c', d', s, e, r1, r2, r3, r4, r5, r6, r7⟩ := raisedW_val hb hc hd (show 0 < 2 ^ 64 by decide) z1 64
      refine ⟨a', b', c', d', 64 + s, congrArg some e, r1, r2, r3, r4, by omega, r6, ?_⟩
      rw [r7, hsh]
  · rw [if_neg (by omega)]
    obtain ⟨a', b', c', d', s, e, r1, r2, r3, r4, r5, r6, r7⟩ := raisedW_val ha hb hc hd z0 0
    refine ⟨a', b', c', d', s, ?_, r1, r2, r3, r4, by omega, r6, r7⟩
    have e' := congrArg some e
    rw [Nat.zero_add] at e'
    exact e'
end Go.Proofs.Ytnlbfomlfhigcaa.M
