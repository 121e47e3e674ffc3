/- Walks and plain laws that the claim stands on: each theorem named calls says that a call of a function returns what its f computes; the others are plain laws of these f, and the words that the walks use. -/
import Derived.Test.YtnlbfomlfhigcaaTopRisesV17
import Derived.Test.YtnlbfomlfhigcaaTopRisesV16
import Derived.Test.YtnlbfomlfhigcaaTopRisesV7
import Derived.Test.YtnlbfomlfhigcaaTopRisesV8
import Derived.Test.YtnlbfomlfhigcaaTopRisesV2
import Derived.Test.YtnlbfomlfhigcaaTopRisesV4
import Derived.Test.YtnlbfomlfhigcaaTopRisesV18
import Derived.Test.YtnlbfomlfhigcaaTopRisesV12
import Derived.Test.YtnlbfomlfhigcaaTopRisesV13
namespace Go.Proofs.Ytnlbfomlfhigcaa.M
open Go.RowKit Go.Proofs.YtnlbfomlfhigcaaW.PrintWords Go.Proofs.YtnlbfomlfhigcaaW.PrintLast Go.Proofs.YtnlbfomlfhigcaaW.PrintMore Go.Proofs.Ytnlbfomlfhigcaa.Q
def hiY (Y : Nat) : Int := ((Y / 2 ^ 72 / 2 ^ 64 : Nat) : Int)
def loY (Y : Nat) : Int := ((Y / 2 ^ 72 % 2 ^ 64 : Nat) : Int)
def reY (b : Bool) (Y : Nat) : Bool := b || decide (Y % 2 ^ 72 ≠ 0)
set_option maxRecDepth 20000 in
theorem under_Y {Y m c : Nat} (b : Bool) (hY : Y < 2 ^ 200) (hm : m = 1 ∨ m = 2) (hc : c < 2 ^ m) (hd : Y % 2 ^ m = 0) :
    round_under.f (hiY Y) (loY Y) (c : Int) (m : Int) (reY b Y) = some (hiY (Y / 2 ^ m + c * 2 ^ (200 - m)), loY (Y / 2 ^ m + c * 2 ^ (200 - m)), reY b (Y / 2 ^ m + c * 2 ^ (200 - m))) := by
  unfold round_under.f hiY loY
  have hW : Y / 2 ^ 72 < 2 ^ 128 := by omega
  have hWd : Y / 2 ^ 72 / 2 ^ 64 * 2 ^ 64 + Y / 2 ^ 72 % 2 ^ 64 = Y / 2 ^ 72 := by rw [Nat.mul_comm]; exact Nat.div_add_mod _ _
  rw [Shr_tw (j := m) (by omega) (Nat.mod_lt _ (by decide)) (by omega), hWd]
  simp only [Option.bind_some]
  have hw : wrap64 (64 - (m : Int)) = ((64 - m : Nat) : Int) := by unfold wrap64; omega
  rw [hw, if_pos (by omega), shl_nat c (64 - m) (by omega)]
  have hcs : c * 2 ^ (64 - m) % 2 ^ 64 = c * 2 ^ (64 - m) := Nat.mod_eq_of_lt (by rcases hm with rfl | rfl <;> simp only [Nat.reduceSub] <;> omega)
  have hor : Go.bits .or .u64 ((Y / 2 ^ 72 / 2 ^ m / 2 ^ 64 : Nat) : Int) ((c * 2 ^ (64 - m) : Nat) : Int) = ((c * 2 ^ (64 - m) + Y / 2 ^ 72 / 2 ^ m / 2 ^ 64 : Nat) : Int) := by
    have h1 : Y / 2 ^ 72 / 2 ^ m / 2 ^ 64 < 2 ^ (64 - m) := by rcases hm with rfl | rfl <;> simp only [Nat.reduceSub] <;> omega
    have h2 : c * 2 ^ (64 - m) < 2 ^ 64 := by rcases hm with rfl | rfl <;> simp only [Nat.reduceSub] <;> omega
    have h3 := or_add (c * 2 ^ (64 - m)) (Y / 2 ^ 72 / 2 ^ m / 2 ^ 64) (64 - m) h2 h1 (by omega) (Nat.mul_mod_left _ _)
    rw [or_nat _ _ h2 (by have : 2 ^ (64 - m) ≤ 2 ^ 64 := pow_le (by omega); omega)] at h3
    rw [or_nat _ _ (by have : 2 ^ (64 - m) ≤ 2 ^ 64 := pow_le (by omega); omega) h2, Nat.or_comm, h3]
  rw [hcs, hor]
  have hC : c * 2 ^ (200 - m) = c * 2 ^ (64 - m) * 2 ^ 64 * 2 ^ 72 := by rw [Nat.mul_assoc, Nat.mul_assoc, ← Nat.pow_add, ← Nat.pow_add]; exact congrArg (fun z => c * 2 ^ z) (by omega)
  rw [hC]
  generalize c * 2 ^ (64 - m) = C at *
  have a1 : C + Y / 2 ^ 72 / 2 ^ m / 2 ^ 64 = (Y / 2 ^ m + C * 2 ^ 64 * 2 ^ 72) / 2 ^ 72 / 2 ^ 64 := by rcases hm with rfl | rfl <;> omega
  have a2 : Y / 2 ^ 72 / 2 ^ m % 2 ^ 64 = (Y / 2 ^ m + C * 2 ^ 64 * 2 ^ 72) / 2 ^ 72 % 2 ^ 64 := by rcases hm with rfl | rfl <;> omega
  have a3 : ((Y % 2 ^ 72 ≠ 0) ∨ (Y / 2 ^ 72 % 2 ^ m ≠ 0)) ↔ (Y / 2 ^ m + C * 2 ^ 64 * 2 ^ 72) % 2 ^ 72 ≠ 0 := by rcases hm with rfl | rfl <;> omega
  rw [a1, a2]
  unfold reY
  by_cases c1 : Y % 2 ^ 72 ≠ 0
  · rw [decide_eq_true c1, decide_eq_true (a3.1 (.inl c1)), Bool.or_true, if_pos rfl]
  · rw [decide_eq_false c1]
    by_cases c2 : Y / 2 ^ 72 % 2 ^ m ≠ 0
    · rw [decide_eq_true c2, decide_eq_true (a3.1 (.inr c2))]
      cases b <;> simp
    · have : ¬ (Y / 2 ^ m + C * 2 ^ 64 * 2 ^ 72) % 2 ^ 72 ≠ 0 := fun h => (a3.2 h).elim c1 c2
      rw [decide_eq_false c2, decide_eq_false this]
      cases b <;> simp
def lft (n Y : Nat) (b : Bool) : Nat :=
  if 2 ^ (201 - n) < 2 * (Y % 2 ^ (201 - n)) + b.toNat then 3 else if 2 ^ (201 - n) = 2 * (Y % 2 ^ (201 - n)) + b.toNat then 2 else if 0 < 2 * (Y % 2 ^ (201 - n)) + b.toNat then 1 else 0
theorem left_val (k : Nat) (x : Nat) (b : Bool) : round_left.f (k + 1) (x : Int) b = some (((if 9223372036854775808 < x ∨ (x = 9223372036854775808 ∧ b = true) then 3 else if x = 9223372036854775808 then 2 else if 0 < x ∨ b = true then 1 else 0 : Nat) : Nat) : Int) := by
  unfold round_left.f
  simp only [round_left.j0]
  have i1 : ((x : Int) > 9223372036854775808) ↔ 9223372036854775808 < x := by omega
  have i2 : ((x : Int) = 9223372036854775808) ↔ x = 9223372036854775808 := by omega
  have i3 : ((x : Int) > 0) ↔ 0 < x := by omega
  simp only [i1, i2, i3]
  by_cases c1 : 9223372036854775808 < x
  · simp [c1]
  · by_cases c2 : x = 9223372036854775808
    · subst c2
      cases b <;> simp
    · by_cases c3 : 0 < x <;> cases b <;> simp [c1, c2, c3]
theorem j3_Y {n Y : Nat} (hn : Wd n) (b : Bool) (hY : Y < 2 ^ 200) (k : Nat) :
    round_Cut.j3 (k + 2) (n : Int) (reY b Y) (hiY Y) (loY Y) = some (((Y / 2 ^ (201 - n) : Nat) : Int), ((lft n Y b : Nat) : Int), none) := by
  have hb := hn.bd
  simp only [round_Cut.j3]
  have hw1 : wrap64 (65 - (n : Int)) = ((65 - n : Nat) : Int) := by unfold wrap64; omega
  have hw2 : wrap64 ((n : Int) - 1) = ((n - 1 : Nat) : Int) := by unfold wrap64; omega
  rw [hw1, hw2, if_pos (by omega)]
  unfold hiY loY
  have hW : Y / 2 ^ 72 < 2 ^ 128 := by omega
  have hWd : Y / 2 ^ 72 / 2 ^ 64 * 2 ^ 64 + Y / 2 ^ 72 % 2 ^ 64 = Y / 2 ^ 72 := by rw [Nat.mul_comm]; exact Nat.div_add_mod _ _
  obtain ⟨bb, hS⟩ := Shl_tw (h := Y / 2 ^ 72 / 2 ^ 64) (l := Y / 2 ^ 72 % 2 ^ 64) (j := n - 1) (by omega) (Nat.mod_lt _ (by decide)) (by omega)
  rw [hS, hWd]
  simp only [Option.bind_some]
  rw [shr_nat _ (65 - n) (by omega)]
  have a1 : Y / 2 ^ 72 / 2 ^ 64 / 2 ^ (65 - n) = Y / 2 ^ (201 - n) := by
    rw [Nat.div_div_eq_div_mul, Nat.div_div_eq_div_mul, ← Nat.pow_add, ← Nat.pow_add]
    exact congrArg (fun z => Y / 2 ^ z) (by omega)
  rw [a1]
  have hbb := toNat_le b
  have hbt : b.toNat = 1 ↔ b = true := by cases b <;> simp
  have key : ∀ r : Bool, (r = true ↔ (b = true ∨ Y % 2 ^ 72 ≠ 0 ∨ Y / 2 ^ 72 * 2 ^ (n - 1) % 2 ^ 64 ≠ 0)) →
      (if 9223372036854775808 < Y / 2 ^ 72 * 2 ^ (n - 1) % 2 ^ 128 / 2 ^ 64 ∨ (Y / 2 ^ 72 * 2 ^ (n - 1) % 2 ^ 128 / 2 ^ 64 = 9223372036854775808 ∧ r = true) then 3 else if Y / 2 ^ 72 * 2 ^ (n - 1) % 2 ^ 128 / 2 ^ 64 = 9223372036854775808 then 2 else if 0 < Y / 2 ^ 72 * 2 ^ (n - 1) % 2 ^ 128 / 2 ^ 64 ∨ r = true then 1 else 0 : Nat) = lft n Y b := by
    intro r hr
    unfold lft
    simp only [hr, ← hbt]
    generalize b.toNat = t at *
    have b1 : (9223372036854775808 < Y / 2 ^ 72 * 2 ^ (n - 1) % 2 ^ 128 / 2 ^ 64 ∨ (Y / 2 ^ 72 * 2 ^ (n - 1) % 2 ^ 128 / 2 ^ 64 = 9223372036854775808 ∧ (t = 1 ∨ Y % 2 ^ 72 ≠ 0 ∨ Y / 2 ^ 72 * 2 ^ (n - 1) % 2 ^ 64 ≠ 0))) ↔ 2 ^ (201 - n) < 2 * (Y % 2 ^ (201 - n)) + t := by
      rcases hn with rfl | rfl | rfl | rfl <;> simp only [Nat.reduceSub] <;> omega
    have b2 : ¬ (2 ^ (201 - n) < 2 * (Y % 2 ^ (201 - n)) + t) → (Y / 2 ^ 72 * 2 ^ (n - 1) % 2 ^ 128 / 2 ^ 64 = 9223372036854775808 ↔ 2 ^ (201 - n) = 2 * (Y % 2 ^ (201 - n)) + t) := by
      rcases hn with rfl | rfl | rfl | rfl <;> simp only [Nat.reduceSub] <;> omega
    have b3 : (0 < Y / 2 ^ 72 * 2 ^ (n - 1) % 2 ^ 128 / 2 ^ 64 ∨ (t = 1 ∨ Y % 2 ^ 72 ≠ 0 ∨ Y / 2 ^ 72 * 2 ^ (n - 1) % 2 ^ 64 ≠ 0)) ↔ 0 < 2 * (Y % 2 ^ (201 - n)) + t := by
      rcases hn with rfl | rfl | rfl | rfl <;> simp only [Nat.reduceSub] <;> omega
    by_cases c1 : 2 ^ (201 - n) < 2 * (Y % 2 ^ (201 - n)) + t
    · rw [if_pos (b1.2 c1), if_pos c1]
    · rw [if_neg (fun h => c1 (b1.1 h)), if_neg c1]
      by_cases c2 : 2 ^ (201 - n) = 2 * (Y % 2 ^ (201 - n)) + t
      · rw [if_pos ((b2 c1).2 c2), if_pos c2]
      · rw [if_neg (fun h => c2 ((b2 c1).1 h)), if_neg c2]
        by_cases c3 : 0 < 2 * (Y % 2 ^ (201 - n)) + t
        · rw [if_pos (b3.2 c3), if_pos c3]
        · rw [if_neg (fun h => c3 (b3.1 h)), if_neg c3]
  unfold reY
  by_cases d : Y / 2 ^ 72 * 2 ^ (n - 1) % 2 ^ 64 = 0
  · rw [if_pos (by omega), left_val, key (b || decide (Y % 2 ^ 72 ≠ 0)) (by cases b <;> simp [d])]
    rfl
  · rw [if_neg (by omega), left_val, key true (by simp [d])]
    rfl
def yo (t i : Nat) : Nat := t * 2 ^ (70 - i) + (2 ^ 200 - 2 ^ (200 - i))
def yz (t i : Nat) : Nat := t * 2 ^ (70 - i) + 2 ^ (199 - i)
theorem yo_step {t i : Nat} (ht : t < 2 ^ 129) (hi : i < 70) : yo t i < 2 ^ 200 ∧ yo t i % 2 ^ 1 = 0 ∧ yo t i / 2 ^ 1 + 1 * 2 ^ (200 - 1) = yo t (i + 1) := by
  unfold yo
  have e1 : 2 ^ (70 - i) = 2 * 2 ^ (70 - (i + 1)) := by rw [← Nat.pow_succ']; exact congrArg (2 ^ ·) (by omega)
  have e2 : 2 ^ (200 - i) = 2 * 2 ^ (200 - (i + 1)) := by rw [← Nat.pow_succ']; exact congrArg (2 ^ ·) (by omega)
  have e3 : 2 ^ (200 - i) = 2 ^ 130 * 2 ^ (70 - i) := by rw [← Nat.pow_add]; exact congrArg (2 ^ ·) (by omega)
  have e4 : t * 2 ^ (70 - i) < 2 ^ 129 * 2 ^ (70 - i) := Nat.mul_lt_mul_of_pos_right ht (pow_pos _)
  have e5 : 2 ^ (200 - i) ≤ 2 ^ 200 := pow_le (by omega)
  have hA : t * 2 ^ (70 - i) = 2 * (t * 2 ^ (70 - (i + 1))) := by rw [e1]; exact Nat.mul_left_comm _ _ _
  have e7 : 2 ^ 130 * 2 ^ (70 - i) = 2 * (2 ^ 129 * 2 ^ (70 - i)) := by rw [← Nat.mul_assoc, ← Nat.pow_succ']
  generalize t * 2 ^ (70 - i) = v1 at *
  generalize t * 2 ^ (70 - (i + 1)) = v2 at *
  generalize 2 ^ (200 - (i + 1)) = u at *
  generalize 2 ^ (200 - i) = u2 at *
  generalize 2 ^ (70 - i) = u3 at *
  clear e1
  omega
theorem yz_step {t i : Nat} (ht : t < 2 ^ 129) (hi : i < 70) : yz t i < 2 ^ 200 ∧ yz t i % 2 ^ 1 = 0 ∧ yz t i / 2 ^ 1 + 0 * 2 ^ (200 - 1) = yz t (i + 1) := by
  unfold yz
  have e1 : 2 ^ (70 - i) = 2 * 2 ^ (70 - (i + 1)) := by rw [← Nat.pow_succ']; exact congrArg (2 ^ ·) (by omega)
  have e2 : 2 ^ (199 - i) = 2 * 2 ^ (199 - (i + 1)) := by rw [← Nat.pow_succ']; exact congrArg (2 ^ ·) (by omega)
  have e3 : 2 ^ (199 - i) = 2 ^ 129 * 2 ^ (70 - i) := by rw [← Nat.pow_add]; exact congrArg (2 ^ ·) (by omega)
  have e4 : t * 2 ^ (70 - i) < 2 ^ 129 * 2 ^ (70 - i) := Nat.mul_lt_mul_of_pos_right ht (pow_pos _)
  have e5 : 2 ^ (199 - i) ≤ 2 ^ 199 := pow_le (by omega)
  have hA : t * 2 ^ (70 - i) = 2 * (t * 2 ^ (70 - (i + 1))) := by rw [e1]; exact Nat.mul_left_comm _ _ _
  rw [Nat.zero_mul, Nat.add_zero, Nat.pow_one, hA, e2]
  have e7 : 2 ^ 129 * 2 ^ (70 - i) ≤ 2 ^ 199 := by rw [← e3]; exact e5
  rw [hA] at e4
  generalize t * 2 ^ (70 - (i + 1)) = v2 at *
  generalize 2 ^ (199 - (i + 1)) = u at *
  generalize 2 ^ (70 - i) = u3 at *
  have e8 : 2 * u ≤ 2 ^ 199 := by rw [← e2]; exact e5
  clear e1 e2 e3 e5 hA
  generalize 2 ^ 129 * u3 = q at *
  omega
theorem yo_lt {t i : Nat} (ht : t < 2 ^ 129) (hi : i ≤ 70) : yo t i < 2 ^ 200 := by
  unfold yo
  have e3 : 2 ^ (200 - i) = 2 ^ 130 * 2 ^ (70 - i) := by rw [← Nat.pow_add]; exact congrArg (2 ^ ·) (by omega)
  have e4 : t * 2 ^ (70 - i) < 2 ^ 129 * 2 ^ (70 - i) := Nat.mul_lt_mul_of_pos_right ht (pow_pos _)
  have e5 : 2 ^ (200 - i) ≤ 2 ^ 200 := pow_le (by omega)
  have e7 : 2 ^ 130 * 2 ^ (70 - i) = 2 * (2 ^ 129 * 2 ^ (70 - i)) := by rw [← Nat.mul_assoc, ← Nat.pow_succ']
  generalize t * 2 ^ (70 - i) = v at *
  omega
theorem yz_lt {t i : Nat} (ht : t < 2 ^ 129) (hi : i ≤ 70) : yz t i < 2 ^ 200 := by
  unfold yz
  have e3 : 2 ^ (199 - i) = 2 ^ 129 * 2 ^ (70 - i) := by rw [← Nat.pow_add]; exact congrArg (2 ^ ·) (by omega)
  have e4 : t * 2 ^ (70 - i) < 2 ^ 129 * 2 ^ (70 - i) := Nat.mul_lt_mul_of_pos_right ht (pow_pos _)
  have e5 : 2 ^ (199 - i) ≤ 2 ^ 199 := pow_le (by omega)
  generalize t * 2 ^ (70 - i) = v at *
  omega
theorem l0_Y {n t r : Nat} (b : Bool) (ht : t < 2 ^ 129) (hr : r ≤ 66) (k : Nat) : ∀ d i : Nat, i + d = r →
    round_Cut.l0 (k + d + 1) (n : Int) (reY b (yo t i)) (r : Int) (i : Int) (hiY (yo t i)) (loY (yo t i)) = round_Cut.j3 k (n : Int) (reY b (yo t r)) (hiY (yo t r)) (loY (yo t r)) := by
  intro d
  induction d with
  | zero =>
    intro i hi
    rw [show k + 0 + 1 = k + 1 from rfl, round_Cut.l0, if_neg (by omega), show i = r by omega]
  | succ d ih =>
    intro i hi
    rw [show k + (d + 1) + 1 = (k + d + 1) + 1 by omega, round_Cut.l0]
    obtain ⟨s1, s2, s3⟩ := yo_step (i := i) ht (by omega)
    have hu := under_Y (m := 1) (c := 1) b s1 (.inl rfl) (by decide) s2
    rw [s3] at hu
    have hw : wrap64 ((i : Int) + 1) = ((i + 1 : Nat) : Int) := by unfold wrap64; omega
    have hu' : round_under.f (hiY (yo t i)) (loY (yo t i)) 1 1 (reY b (yo t i)) = some (hiY (yo t (i + 1)), loY (yo t (i + 1)), reY b (yo t (i + 1))) := hu
    rw [if_pos (by omega), hu', hw]
    simp only [Option.bind_some]
    exact ih (i + 1) (by omega)
theorem l1_Y {n t r : Nat} (b : Bool) (ht : t < 2 ^ 129) (hr : r ≤ 66) (k : Nat) : ∀ d i : Nat, i + d = r →
    round_Cut.l1 (k + d + 1) (n : Int) (reY b (yz t i)) (r : Int) (i : Int) (hiY (yz t i)) (loY (yz t i)) = round_Cut.j3 k (n : Int) (reY b (yz t r)) (hiY (yz t r)) (loY (yz t r)) := by
  intro d
  induction d with
  | zero =>
    intro i hi
    rw [show k + 0 + 1 = k + 1 from rfl, round_Cut.l1, if_neg (by omega), show i = r by omega]
  | succ d ih =>
    intro i hi
    rw [show k + (d + 1) + 1 = (k + d + 1) + 1 by omega, round_Cut.l1]
    obtain ⟨s1, s2, s3⟩ := yz_step (i := i) ht (by omega)
    have hu := under_Y (m := 1) (c := 0) b s1 (.inl rfl) (by decide) s2
    rw [s3] at hu
    have hw : wrap64 ((i : Int) + 1) = ((i + 1 : Nat) : Int) := by unfold wrap64; omega
    have hu' : round_under.f (hiY (yz t i)) (loY (yz t i)) 0 1 (reY b (yz t i)) = some (hiY (yz t (i + 1)), loY (yz t (i + 1)), reY b (yz t (i + 1))) := hu
    rw [if_pos (by omega), hu', hw]
    simp only [Option.bind_some]
    exact ih (i + 1) (by omega)
end Go.Proofs.Ytnlbfomlfhigcaa.M
namespace Go.Proofs.Ytnlbfomlfhigcaa.M
open Go.RowKit Go.Proofs.YtnlbfomlfhigcaaW.PrintWords Go.Proofs.YtnlbfomlfhigcaaW.PrintLast Go.Proofs.YtnlbfomlfhigcaaW.PrintMore Go.Proofs.Ytnlbfomlfhigcaa.Q
theorem and3 (s : Int) : IntKind.u64.wrap (Go.bits .and .i64 s 3) = ((s % 4).toNat : Int) := by
  have h : (BitVec.ofInt 64 s &&& BitVec.ofInt 64 3).toNat = (s % 4).toNat := by
    rw [BitVec.toNat_and, BitVec.toNat_ofInt, BitVec.toNat_ofInt]
    have : ((3 : Int) % ((2 ^ 64 : Nat) : Int)).toNat = 2 ^ 2 - 1 := by decide
    rw [this, Nat.and_two_pow_sub_one_eq_mod, p64]
    omega
  have e : Go.bits .and .i64 s 3 = IntKind.i64.wrap ((BitVec.ofInt 64 s &&& BitVec.ofInt 64 3).toNat : Nat) := rfl
  rw [e, h, IntKind.wrap_i64, u64w]
  have : (s % 4).toNat ≤ 3 := by omega
  omega
theorem str_yo {s : Int} {F k : Nat} (h : s / 4 = (k : Int)) (hk : k ≤ 69) : str s F = yo (tl s F) (k + 1) := by
  rw [str_pos h]
  unfold yo
  have e1 : 2 ^ 130 * 2 ^ (69 - k) = 2 ^ (200 - (k + 1)) := by rw [← Nat.pow_add]; exact congrArg (2 ^ ·) (by omega)
  rw [e1, show 70 - (k + 1) = 69 - k by omega, Nat.add_comm]
theorem str_yz {s : Int} {F r : Nat} (h : s / 4 = -(r : Int)) (hr : 1 ≤ r) (hr2 : r ≤ 70) : str s F = yz (tl s F) r := by
  rw [str_neg h hr]
  unfold yz
  have e1 : 2 ^ 129 * 2 ^ (70 - r) = 2 ^ (199 - r) := by rw [← Nat.pow_add]; exact congrArg (2 ^ ·) (by omega)
  rw [e1, Nat.add_comm]
theorem str_lt200 {s : Int} {F : Nat} (h1 : -270 ≤ s) (h2 : s ≤ 270) (hF : F < 2 ^ 128) : str s F < 2 ^ 200 := by
  by_cases h0 : 0 ≤ s / 4
  · obtain ⟨k, hk⟩ := Int.eq_ofNat_of_zero_le h0
    rw [str_yo hk (by omega)]
    exact yo_lt (tl_lt hF) (by omega)
  · obtain ⟨r, hr⟩ : ∃ r : Nat, s / 4 = -(r : Int) := ⟨(-(s / 4)).toNat, by omega⟩
    rw [str_yz hr (by omega) (by omega)]
    exact yz_lt (tl_lt hF) (by omega)
theorem y_e1 (X e : Nat) : X * 2 ^ 73 / 2 ^ 2 + e * 2 ^ (200 - 2) = (e * 2 ^ 127 + X) * 2 ^ 71 := by omega
theorem y_half (t : Nat) : t * 2 ^ 71 / 2 ^ 1 = t * 2 ^ 70 := by omega
theorem y_e2 (t : Nat) : t * 2 ^ 71 / 2 ^ 1 + 0 * 2 ^ (200 - 1) = yo t 0 := by
  rw [y_half, Nat.zero_mul]
  unfold yo
  rw [Nat.sub_zero, Nat.sub_zero, Nat.sub_self]
theorem y_e3 (t : Nat) : t * 2 ^ 71 / 2 ^ 1 + 1 * 2 ^ (200 - 1) = yz t 0 := by
  rw [y_half, Nat.one_mul]
  rfl
theorem y_lt (t : Nat) (h : t < 2 ^ 129) : t * 2 ^ 71 < 2 ^ 200 ∧ t * 2 ^ 71 % 2 ^ 1 = 0 := by omega
theorem y_lt0 (X : Nat) (h : X < 2 ^ 127) : X * 2 ^ 73 < 2 ^ 200 ∧ X * 2 ^ 73 % 2 ^ 2 = 0 ∧ X * 2 ^ 73 % 2 ^ 72 = 0 := by omega
theorem under_end0 (b : Bool) {t : Nat} (h : t < 2 ^ 129) : round_under.f (hiY (t * 2 ^ 71)) (loY (t * 2 ^ 71)) 0 1 (reY b (t * 2 ^ 71)) = some (hiY (yo t 0), loY (yo t 0), reY b (yo t 0)) := by
  have hu := under_Y (Y := t * 2 ^ 71) (m := 1) (c := 0) b (y_lt t h).1 (.inl rfl) (by decide) (y_lt t h).2
  rw [y_e2] at hu
  exact hu
theorem under_end1 (b : Bool) {t : Nat} (h : t < 2 ^ 129) : round_under.f (hiY (t * 2 ^ 71)) (loY (t * 2 ^ 71)) 1 1 (reY b (t * 2 ^ 71)) = some (hiY (yz t 0), loY (yz t 0), reY b (yz t 0)) := by
  have hu := under_Y (Y := t * 2 ^ 71) (m := 1) (c := 1) b (y_lt t h).1 (.inl rfl) (by decide) (y_lt t h).2
  rw [y_e3] at hu
  exact hu
theorem under_exp (b : Bool) {X e : Nat} (h : X < 2 ^ 127) (he : e < 2 ^ 2) : round_under.f (hiY (X * 2 ^ 73)) (loY (X * 2 ^ 73)) (e : Int) 2 b = some (hiY ((e * 2 ^ 127 + X) * 2 ^ 71), loY ((e * 2 ^ 127 + X) * 2 ^ 71), reY b ((e * 2 ^ 127 + X) * 2 ^ 71)) := by
  have h0 := y_lt0 X h
  have hu := under_Y (Y := X * 2 ^ 73) (m := 2) (c := e) b h0.1 (.inr rfl) he h0.2.1
  rw [y_e1] at hu
  have hR : reY b (X * 2 ^ 73) = b := by
    unfold reY
    rw [decide_eq_false (by rw [h0.2.2]; simp), Bool.or_false]
  rw [hR] at hu
  exact hu
theorem shl_first {h l : Nat} (hh : 2 ^ 63 ≤ h) (hh2 : h < 2 ^ 64) (hl : l < 2 ^ 64) : ∃ bb, twin_Shl.f (h : Int) (l : Int) 1 = some (hiY ((h * 2 ^ 64 + l - 2 ^ 127) * 2 ^ 73), loY ((h * 2 ^ 64 + l - 2 ^ 127) * 2 ^ 73), bb, none) := by
  obtain ⟨bb, hS⟩ := Shl_tw (j := 1) hh2 hl (by omega)
  refine ⟨bb, ?_⟩
  unfold hiY loY
  rw [show ((h * 2 ^ 64 + l) * 2 ^ 1 % 2 ^ 128 / 2 ^ 64) = ((h * 2 ^ 64 + l - 2 ^ 127) * 2 ^ 73 / 2 ^ 72 / 2 ^ 64) by omega, show ((h * 2 ^ 64 + l) * 2 ^ 1 % 2 ^ 64) = ((h * 2 ^ 64 + l - 2 ^ 127) * 2 ^ 73 / 2 ^ 72 % 2 ^ 64) by omega] at hS
  exact hS
theorem lay_ones {n q : Nat} (hn : Wd n) (b : Bool) {s : Int} {F : Nat} (hF : F < 2 ^ 128) (hq : s / 4 = (q : Int)) (hq2 : q ≤ 65) (k : Nat) :
    round_Cut.l0 (k + 79) (n : Int) (reY b (yo (tl s F) 0)) (wrap64 ((q : Int) + 1)) 0 (hiY (yo (tl s F) 0)) (loY (yo (tl s F) 0)) = some (((str s F / 2 ^ (201 - n) : Nat) : Int), ((lft n (str s F) b : Nat) : Int), none) := by
  have ht := tl_lt (s := s) hF
  have hw : wrap64 ((q : Int) + 1) = ((q + 1 : Nat) : Int) := by unfold wrap64; omega
  have hl0 := l0_Y (n := n) (r := q + 1) b ht (by omega) (k + 77 - q) (q + 1) 0 (Nat.zero_add _)
  rw [show k + 77 - q + (q + 1) + 1 = k + 79 by omega] at hl0
  rw [hw]
  refine Eq.trans hl0 ?_
  rw [← str_yo hq (by omega), show k + 77 - q = (k + 75 - q) + 2 by omega]
  exact j3_Y hn b (str_lt200 (by omega) (by omega) hF) _
theorem lay_zeros {n r : Nat} (hn : Wd n) (b : Bool) {s : Int} {F : Nat} (hF : F < 2 ^ 128) (hr : s / 4 = -(r : Int)) (hr1 : 1 ≤ r) (hr2 : r ≤ 65) (k : Nat) :
    round_Cut.l1 (k + 79) (n : Int) (reY b (yz (tl s F) 0)) (wrap64 (-(-(r : Int)))) 0 (hiY (yz (tl s F) 0)) (loY (yz (tl s F) 0)) = some (((str s F / 2 ^ (201 - n) : Nat) : Int), ((lft n (str s F) b : Nat) : Int), none) := by
  have ht := tl_lt (s := s) hF
  have hw : wrap64 (-(-(r : Int))) = (r : Int) := by unfold wrap64; omega
  have hl1 := l1_Y (n := n) (r := r) b ht (by omega) (k + 78 - r) r 0 (Nat.zero_add _)
  rw [show k + 78 - r + r + 1 = k + 79 by omega] at hl1
  rw [hw]
  refine Eq.trans hl1 ?_
  rw [← str_yz hr (by omega) (by omega), show k + 78 - r = (k + 76 - r) + 2 by omega]
  exact j3_Y hn b (str_lt200 (by omega) (by omega) hF) _
end Go.Proofs.Ytnlbfomlfhigcaa.M
namespace Go.Proofs.Ytnlbfomlfhigcaa.M
open Go.RowKit Go.Proofs.YtnlbfomlfhigcaaW.PrintWords Go.Proofs.YtnlbfomlfhigcaaW.PrintLast Go.Proofs.YtnlbfomlfhigcaaW.PrintMore Go.Proofs.Ytnlbfomlfhigcaa.Q
theorem j0_str {n : Nat} (hn : Wd n) (neg b : Bool) {s : Int} {h l : Nat} (hh : 2 ^ 63 ≤ h) (hh2 : h < 2 ^ 64) (hl : l < 2 ^ 64) (h1 : 8 - 4 * (n : Int) ≤ s) (h2 : s < 4 * (n : Int) - 8) (k : Nat) :
    round_Cut.j0 (k + 80) (n : Int) 1 neg s (h : Int) (l : Int) b = some (((str s (h * 2 ^ 64 + l) / 2 ^ (201 - n) : Nat) : Int), ((lft n (str s (h * 2 ^ 64 + l)) b : Nat) : Int), none) := by
  have hb := hn.bd
  have hF : h * 2 ^ 64 + l < 2 ^ 128 := by omega
  have hX : h * 2 ^ 64 + l - 2 ^ 127 < 2 ^ 127 := by omega
  obtain ⟨bb, hS⟩ := shl_first hh hh2 hl
  have hu1 := under_exp (e := (s % 4).toNat) b hX (by omega)
  have ht := tl_lt (s := s) hF
  have e1 : (s % 4).toNat * 2 ^ 127 + (h * 2 ^ 64 + l - 2 ^ 127) = tl s (h * 2 ^ 64 + l) := rfl
  rw [e1] at hu1
  rw [show k + 80 = (k + 79) + 1 from rfl, round_Cut.j0, hS, and3]
  simp only [Option.bind_some]
  rw [hu1]
  simp only [Option.bind_some]
  clear hu1 hS e1 hX
  by_cases h0 : 0 ≤ s / 4
  · obtain ⟨q, hq⟩ := Int.eq_ofNat_of_zero_le h0
    rw [if_pos h0, under_end0 b ht, hq, Option.bind_some]
    exact lay_ones hn b hF hq (by omega) k
  · obtain ⟨r, hr⟩ : ∃ r : Nat, s / 4 = -(r : Int) := ⟨(-(s / 4)).toNat, by omega⟩
    rw [if_neg h0, under_end1 b ht, hr, Option.bind_some]
    exact lay_zeros hn b hF hr (by omega) (by omega) k
theorem tl_least {s : Int} (h : s % 4 = 0) : tl s (2 ^ 127) = 0 := by
  unfold tl
  rw [h, Nat.sub_self]
  rfl
theorem held_val (s : Int) : round_held.f s = some (if s < -1099511627776 then -1099511627776 else if 1099511627776 < s then 1099511627776 else s) := by
  unfold round_held.f mx mn
  congr 1
  split <;> split <;> (try split) <;> (try split) <;> omega
theorem sound_real (k : Nat) (neg b : Bool) {s : Int} {h l : Nat} (hh : 2 ^ 63 ≤ h) (hh2 : h < 2 ^ 64) (h1 : -1099511627776 ≤ s) (h2 : s ≤ 1099511627776) : round_sound.f (k + 1) 1 neg s (h : Int) (l : Int) b = some true := by
  unfold round_sound.f
  rw [if_neg (by decide), round_sound.j0, if_neg (by decide), if_pos rfl, if_pos (by rw [p63] at hh; rw [p64] at hh2; omega), held_val, if_neg (by omega), if_neg (by omega)]
  simp
theorem sound_zero (k : Nat) : round_sound.f (k + 1) 0 false 0 0 0 false = some true := by
  unfold round_sound.f
  rw [if_pos rfl, round_sound.j0, if_pos (by decide)]
  rfl
theorem sound_nar (k : Nat) : round_sound.f (k + 1) 2 false 0 0 0 false = some true := by
  unfold round_sound.f
  rw [if_neg (by decide), round_sound.j0, if_pos (by decide)]
  rfl
theorem rnd_lft {n Y : Nat} (hn : Wd n) (b : Bool) : rnd (2 ^ (202 - n)) (2 * Y + b.toNat) = if lft n Y b = 3 ∨ (lft n Y b = 2 ∧ Y / 2 ^ (201 - n) % 2 = 1) then Y / 2 ^ (201 - n) + 1 else Y / 2 ^ (201 - n) := by
  have hbb := toNat_le b
  rw [(unit_eq hn).2]
  have hp := pow_pos (201 - n)
  have hd : (2 * Y + b.toNat) / (2 * 2 ^ (201 - n)) = Y / 2 ^ (201 - n) := by
    rw [← Nat.div_div_eq_div_mul]
    congr 1
    omega
  have hm : (2 * Y + b.toNat) % (2 * 2 ^ (201 - n)) = 2 * (Y % 2 ^ (201 - n)) + b.toNat := by
    have a1 := Nat.div_add_mod (2 * Y + b.toNat) (2 * 2 ^ (201 - n))
    have a2 := Nat.div_add_mod Y (2 ^ (201 - n))
    rw [hd, Nat.mul_assoc] at a1
    omega
  unfold rnd lft
  rw [hd, hm]
  generalize 2 * (Y % 2 ^ (201 - n)) + b.toNat = z
  generalize Y / 2 ^ (201 - n) = q
  generalize 2 ^ (201 - n) = d
  by_cases c1 : d < z
  · rw [if_pos (.inl (by omega)), if_pos c1, if_pos (.inl rfl)]
  · rw [if_neg c1]
    by_cases c2 : d = z
    · rw [if_pos c2]
      by_cases c3 : q % 2 = 1
      · rw [if_pos (.inr ⟨by omega, c3⟩), if_pos (.inr ⟨rfl, c3⟩)]
      · rw [if_neg (by omega), if_neg (by omega)]
    · rw [if_neg c2, if_neg (by omega)]
      split <;> rw [if_neg (by omega)]
def sg (n : Nat) (neg : Bool) (p : Nat) : Nat := if neg then 2 ^ n - p else p
theorem fold_sg {n : Nat} (hn : Wd n) (neg : Bool) {p : Nat} (h1 : 1 ≤ p) (h2 : p < 2 ^ (n - 1)) :
    (if neg = true then (shape_Fold.f (n : Int) (IntKind.u64.wrap (-(p : Int)))).bind (fun bt => some (bt.1, bt.2)) else (shape_Fold.f (n : Int) (p : Int)).bind (fun bt => some (bt.1, bt.2))) = some (((sg n neg p : Nat) : Int), none) := by
  have hb := hn.bd
  have e := two_half hn
  have hn64 : 2 ^ n ≤ 2 ^ 64 := pow_le hb.2
  cases neg with
  | true =>
    rw [if_pos rfl, show IntKind.u64.wrap (-(p : Int)) = ((2 ^ 64 - p : Nat) : Int) by rw [u64w, p64]; rw [p64] at hn64; omega, fold_yes hn (by omega)]
    have : (2 ^ 64 - p) % 2 ^ n = 2 ^ n - p := by
      rw [pow_split (show n ≤ 64 from hb.2)]
      have hq := pow_pos (64 - n)
      generalize 2 ^ (64 - n) = q at *
      obtain ⟨q, rfl⟩ : ∃ z, q = z + 1 := ⟨q - 1, by omega⟩
      rw [Nat.mul_succ, show 2 ^ n * q + 2 ^ n - p = (2 ^ n - p) + 2 ^ n * q by omega, Nat.add_mul_mod_self_left, Nat.mod_eq_of_lt (by omega)]
    rw [this]
    rfl
  | false =>
    rw [if_neg (by decide), fold_yes hn (by omega), Nat.mod_eq_of_lt (by omega)]
    rfl
theorem round_real {n : Nat} (hn : Wd n) (neg b : Bool) {s : Int} {h l : Nat} (hh : 2 ^ 63 ≤ h) (hh2 : h < 2 ^ 64) (hl : l < 2 ^ 64) (h1 : -1099511627776 ≤ s) (h2 : s ≤ 1099511627776) (k : Nat) :
    round_Round.f (k + 80) (n : Int) 1 neg s (h : Int) (l : Int) b = some (((sg n neg (rpos n s (h * 2 ^ 64 + l) b) : Nat) : Int), none) := by
  have hb := hn.bd
  have hF : 2 ^ 127 ≤ h * 2 ^ 64 + l ∧ h * 2 ^ 64 + l < 2 ^ 128 := by omega
  have hR := rpos_bd hn s b hF.2
  have hsn : wrap64 (-(4 * (n : Int) - 8)) = 8 - 4 * (n : Int) := by unfold wrap64; omega
  have hq2 : 2 ≤ 2 ^ (n - 1) := by have : 2 ^ 1 ≤ 2 ^ (n - 1) := pow_le (by omega); omega

  have hcut : ∃ P L : Nat, round_Cut.f (k + 80) (n : Int) 1 neg s (h : Int) (l : Int) b = some ((P : Int), (L : Int), none) ∧ P < 2 ^ (n - 1) ∧ rpos n s (h * 2 ^ 64 + l) b = if L = 3 ∨ (L = 2 ∧ P % 2 = 1) then P + 1 else P := by
    unfold round_Cut.f
    rw [of_yes hn]
    simp only [Option.bind_some, Option.isNone_none, if_true]
    rw [sound_real (k + 79) neg b hh hh2 h1 h2]
    simp only [Option.bind_some, if_true]
    rw [if_neg (by decide), if_neg (by decide), hsn]
    by_cases c1 : 4 * (n : Int) - 8 ≤ s
    · rw [if_pos c1]
      refine ⟨2 ^ (n - 1) - 1, 0, rfl, by omega, ?_⟩
      unfold rpos
      rw [if_pos c1, if_neg (by omega)]
    · rw [if_neg (by omega)]
      by_cases c2 : s < 8 - 4 * (n : Int)
      · rw [if_pos c2]
        refine ⟨1, 0, rfl, by omega, ?_⟩
        unfold rpos
        rw [if_neg c1, if_pos c2, if_neg (by omega)]
      · rw [if_neg c2]
        have hj := j0_str hn neg b hh hh2 hl (show 8 - 4 * (n : Int) ≤ s by omega) (by omega) k
        have hin := rnd_in hn b (s := s) (F := h * 2 ^ 64 + l) (by omega) (by omega) hF.2
        have hrl := rnd_lft (Y := str s (h * 2 ^ 64 + l)) hn b
        have hbd := rnd_bd (2 ^ (202 - n)) (2 * str s (h * 2 ^ 64 + l) + b.toNat)
        have hd : (2 * str s (h * 2 ^ 64 + l) + b.toNat) / 2 ^ (202 - n) = str s (h * 2 ^ 64 + l) / 2 ^ (201 - n) := by
          rw [(unit_eq hn).2, ← Nat.div_div_eq_div_mul]
          have := toNat_le b
          congr 1
          omega
        have hfin : ∃ P L : Nat, round_Cut.j0 (k + 80) (n : Int) 1 neg s (h : Int) (l : Int) b = some ((P : Int), (L : Int), none) ∧ P < 2 ^ (n - 1) ∧ rpos n s (h * 2 ^ 64 + l) b = if L = 3 ∨ (L = 2 ∧ P % 2 = 1) then P + 1 else P := by
          refine ⟨_, _, hj, by omega, ?_⟩
          unfold rpos
          rw [if_neg c1, if_neg c2, hrl]
        by_cases c3 : s = 8 - 4 * (n : Int)
        · rw [if_pos c3]
          by_cases c4 : (h : Int) = 9223372036854775808
          · rw [if_pos c4]
            by_cases c5 : (l : Int) = 0
            · rw [if_pos c5]
              cases b with
              | true => rw [if_pos rfl]; exact hfin
              | false =>
                rw [if_neg (by decide)]
                refine ⟨1, 0, rfl, by omega, ?_⟩
                rw [if_neg (by omega)]
                unfold rpos
                rw [if_neg c1, if_neg c2]
                have hF2 : h * 2 ^ 64 + l = 2 ^ 127 := by omega
                have hr : s / 4 = -((n - 2 : Nat) : Int) := by omega
                rw [hF2, str_neg hr (by omega)]
                have ht : tl s (2 ^ 127) = 0 := tl_least (by omega)
                rw [ht, Nat.zero_mul, Nat.add_zero]
                have e1 : 2 * (2 ^ 129 * 2 ^ (70 - (n - 2))) + false.toNat = 1 * 2 ^ (202 - n) := by
                  rw [← Nat.pow_add, Nat.one_mul, show 129 + (70 - (n - 2)) = 201 - n by omega, (unit_eq hn).2]
                  rfl
                rw [e1]
                exact rnd_mul (pow_pos _)
            · rw [if_neg c5]; exact hfin
          · rw [if_neg c4]; exact hfin
        · rw [if_neg c3]; exact hfin
  obtain ⟨P, L, hc, hP, hrp⟩ := hcut
  unfold round_Round.f
  rw [hc]
  simp only [Option.bind_some, Option.isNone_none, if_true]
  have hn64 : 2 ^ (n - 1) ≤ 2 ^ 63 := pow_le (by omega)
  have hand : Go.bits .and .u64 (P : Int) 1 = ((P % 2 : Nat) : Int) := and_mask P 1 (by omega) (by omega)
  have hup : IntKind.u64.wrap ((P : Int) + 1) = ((P + 1 : Nat) : Int) := by rw [u64w]; rw [p63] at hn64; omega
  rw [hand, hup]
  have key : ∀ p : Nat, rpos n s (h * 2 ^ 64 + l) b = p → (if neg = true then (shape_Fold.f (n : Int) (IntKind.u64.wrap (-(p : Int)))).bind (fun bt => some (bt.1, bt.2)) else (shape_Fold.f (n : Int) (p : Int)).bind (fun bt => some (bt.1, bt.2))) = some (((sg n neg (rpos n s (h * 2 ^ 64 + l) b) : Nat) : Int), none) := by
    rintro p rfl
    exact fold_sg hn neg hR.1 (by omega)
  by_cases c2 : (L : Int) = 2
  · rw [if_pos c2]
    by_cases c3 : ((P % 2 : Nat) : Int) = 0
    · rw [if_pos c3]
      exact key P (by rw [hrp, if_neg (by omega)])
    · rw [if_neg c3]
      exact key (P + 1) (by rw [hrp, if_pos (by omega)])
  · rw [if_neg c2]
    by_cases c3 : (L : Int) = 3
    · rw [if_pos c3]
      exact key (P + 1) (by rw [hrp, if_pos (by omega)])
    · rw [if_neg c3]
      exact key P (by rw [hrp, if_neg (by omega)])
theorem round_zero {n : Nat} (hn : Wd n) (k : Nat) : round_Round.f (k + 1) (n : Int) 0 false 0 0 0 false = some (0, none) := by
  unfold round_Round.f round_Cut.f
  rw [of_yes hn]
  simp only [Option.bind_some, Option.isNone_none, if_true]
  rw [sound_zero k]
  simp only [Option.bind_some, if_true, Option.isNone_none]
  rw [if_neg (by decide), if_neg (by decide), if_neg (by decide)]
  have := fold_yes hn (x := 0) (by decide)
  rw [Nat.zero_mod] at this
  have h2 : shape_Fold.f (n : Int) 0 = some (0, none) := this
  rw [h2]
  rfl
theorem round_nar {n : Nat} (hn : Wd n) (k : Nat) : round_Round.f (k + 1) (n : Int) 2 false 0 0 0 false = some (((2 ^ (n - 1) : Nat) : Int), none) := by
  have hb := hn.bd
  have e := two_half hn
  have hp := pow_pos (n - 1)
  unfold round_Round.f round_Cut.f
  rw [of_yes hn]
  simp only [Option.bind_some, Option.isNone_none, if_true]
  rw [sound_nar k]
  simp only [Option.bind_some, if_true]
  rw [if_neg (by decide)]
  simp only [Option.bind_some, Option.isNone_none, if_true]
  rw [if_neg (by decide), if_neg (by decide), if_neg (by decide)]
  have hn64 : 2 ^ n ≤ 2 ^ 64 := pow_le hb.2
  rw [fold_yes hn (x := 2 ^ (n - 1)) (by omega), Nat.mod_eq_of_lt (by omega)]
  rfl
end Go.Proofs.Ytnlbfomlfhigcaa.M
namespace Go.Proofs.Ytnlbfomlfhigcaa.M
open Go.RowKit Go.Proofs.YtnlbfomlfhigcaaW.PrintWords Go.Proofs.YtnlbfomlfhigcaaW.PrintLast Go.Proofs.YtnlbfomlfhigcaaW.PrintMore Go.Proofs.Ytnlbfomlfhigcaa.Q
def bitc (len v i : Nat) : Nat := 48 + v / 2 ^ (len - 1 - i) % 2
def IsBits (b : ByteArray) (len v : Nat) : Prop := b.size = len ∧ v < 2 ^ len ∧ ∀ i, i < len → bt b (i : Int) = ((bitc len v i : Nat) : Int)
theorem bitc_range (len v i : Nat) : bitc len v i = 48 ∨ bitc len v i = 49 := by unfold bitc; omega
theorem bt_strOfNums (l : List Int) (i : Nat) (hi : i < l.length) : bt (strOfNums l) (i : Int) = ((l.getD i 0).toNat % 256 : Nat) := by
  unfold bt
  have hs : (strOfNums l).size = l.length := strOfNums_size l
  rw [dif_pos (by rw [hs]; simpa using hi)]
  have : (strOfNums l)[(i : Int).toNat]'(by rw [hs]; simpa using hi) = UInt8.ofNat (l.getD i 0).toNat := by
    show ((l.map fun n => UInt8.ofNat n.toNat).toArray)[(i : Int).toNat]'_ = _
    simp [List.getD, hi]
  rw [this]
  simp
theorem append_size (a b : ByteArray) : (a ++ b).size = a.size + b.size := by simp
theorem bt_append (a b : ByteArray) (i : Nat) (hi : i < a.size + b.size) : bt (a ++ b) (i : Int) = if i < a.size then bt a (i : Int) else bt b ((i - a.size : Nat) : Int) := by
  unfold bt
  simp only [Int.toNat_natCast]
  rw [dif_pos (by rw [append_size]; exact hi)]
  by_cases c : i < a.size
  · rw [if_pos c, dif_pos c, ByteArray.getElem_append_left c]
  · rw [if_neg c, dif_pos (by omega), ByteArray.getElem_append_right (by omega)]
theorem IsBits.append {a b : ByteArray} {la lb va vb : Nat} (h : IsBits a la va) (h' : IsBits b lb vb) : IsBits (a ++ b) (la + lb) (va * 2 ^ lb + vb) := by
  obtain ⟨h1, h2, h3⟩ := h
  obtain ⟨g1, g2, g3⟩ := h'
  refine ⟨by rw [append_size, h1, g1], ?_, fun i hi => ?_⟩
  · have : (va + 1) * 2 ^ lb ≤ 2 ^ la * 2 ^ lb := Nat.mul_le_mul_right _ h2
    rw [← Nat.pow_add, Nat.add_mul, Nat.one_mul] at this
    omega
  · rw [bt_append a b i (by rw [h1, g1]; exact hi), h1]
    by_cases c : i < la
    · rw [if_pos c, h3 i c]
      congr 1
      unfold bitc
      congr 1
      have e : la + lb - 1 - i = lb + (la - 1 - i) := by omega
      rw [e, Nat.pow_add, ← Nat.div_div_eq_div_mul, Nat.add_comm (va * 2 ^ lb), Nat.add_mul_div_right _ _ (pow_pos lb), Nat.div_eq_of_lt g2, Nat.zero_add]
    · rw [if_neg c, g3 (i - la) (by omega)]
      congr 1
      unfold bitc
      congr 1
      have e : la + lb - 1 - i = lb - 1 - (i - la) := by omega
      have e2 : 2 ^ lb = 2 ^ (lb - 1 - (i - la)) * (2 * 2 ^ (i - la)) := by rw [← Nat.pow_succ', ← Nat.pow_add]; exact congrArg (2 ^ ·) (by omega)
      rw [e, e2]
      have e3 : va * (2 ^ (lb - 1 - (i - la)) * (2 * 2 ^ (i - la))) + vb = vb + (va * 2 ^ (i - la)) * 2 * 2 ^ (lb - 1 - (i - la)) := by
        rw [Nat.add_comm]
        congr 1
        rw [Nat.mul_comm (2 ^ (lb - 1 - (i - la))), ← Nat.mul_assoc, ← Nat.mul_assoc, Nat.mul_right_comm va]
      rw [e3, Nat.add_mul_div_right _ _ (pow_pos _), Nat.add_mul_mod_self_right]
theorem text_l0 {x n : Nat} (hn : n ≤ 64) (k : Nat) : ∀ d j : Nat, d + j = n → ∀ l : List Int, l.length = j → (∀ i, i < j → l.getD i 0 = ((bitc n (x % 2 ^ n) i : Nat) : Int)) →
    ∃ b, vernierref01_Text.l0 (k + d + 1) (x : Int) l ((d : Int) - 1) = some b ∧ IsBits b n (x % 2 ^ n) := by
  intro d
  induction d with
  | zero =>
    intro j hj l hl hg
    rw [vernierref01_Text.l0, if_neg (by omega)]
    refine ⟨_, rfl, by rw [strOfNums_size]; omega, Nat.mod_lt _ (pow_pos _), fun i hi => ?_⟩
    rw [bt_strOfNums l i (by omega), hg i (by omega), Int.toNat_natCast]
    have := bitc_range n (x % 2 ^ n) i
    rw [Nat.mod_eq_of_lt (by omega)]
  | succ d ih =>
    intro j hj l hl hg
    rw [show k + (d + 1) + 1 = (k + d + 1) + 1 by omega, vernierref01_Text.l0, if_pos (by omega), if_pos (by omega), if_pos (by omega)]
    have e1 : (((d + 1 : Nat) : Int) - 1) = ((d : Nat) : Int) := by omega
    rw [e1, shr_nat x d (by omega)]
    have e2 : wrap64 ((d : Int) - 1) = (d : Int) - 1 := wrap64_id (by omega) (by omega)
    rw [e2]
    refine ih (j + 1) (by omega) _ (by simp [hl]) (fun i hi => ?_)
    by_cases c : i < j
    · rw [List.getD_eq_getElem?_getD, List.getElem?_append_left (by omega), ← List.getD_eq_getElem?_getD]
      exact hg i c
    · have : i = j := by omega
      subst this
      rw [List.getD_eq_getElem?_getD, List.getElem?_append_right (by omega), hl, Nat.sub_self]
      have e3 : n - 1 - i = d := by omega
      unfold bitc
      rw [e3]
      have e4 : x % 2 ^ n / 2 ^ d % 2 = x / 2 ^ d % 2 := by
        rw [show 2 ^ n = 2 ^ d * (2 * 2 ^ i) by rw [← Nat.pow_succ', ← Nat.pow_add]; exact congrArg (2 ^ ·) (by omega), Nat.mod_mul_right_div_self, Nat.mod_mul_right_mod]
      rw [e4]
      show (48 + Int.tmod ((x / 2 ^ d : Nat) : Int) 2) % 256 = _
      rw [Int.tmod_eq_emod_of_nonneg (Int.natCast_nonneg _)]
      generalize x / 2 ^ d = z
      omega
theorem text_bits (x : Nat) {n : Nat} (hn : n ≤ 64) (k : Nat) : ∃ b, vernierref01_Text.f (k + 66) (x : Int) (n : Int) = some b ∧ IsBits b n (x % 2 ^ n) := by
  unfold vernierref01_Text.f
  rw [wrap64_id (by omega) (by omega)]
  have := text_l0 (x := x) hn (k + 65 - n) n 0 (by omega) [] rfl (fun i hi => absurd hi (Nat.not_lt_zero _))
  rw [show k + 65 - n + n + 1 = k + 66 by omega] at this
  exact this
theorem number_l0 {b : ByteArray} {len v : Nat} (h : IsBits b len v) (hlen : len ≤ 64) (k : Nat) : ∀ d i : Nat, i + d = len →
    vernierref01_Number.l0 (k + d + 1) b ((v / 2 ^ d : Nat) : Int) (i : Int) = some (v : Int) := by
  obtain ⟨h1, h2, h3⟩ := h
  intro d
  induction d with
  | zero =>
    intro i hi
    rw [vernierref01_Number.l0, if_neg (by omega), Nat.pow_zero, Nat.div_one]
  | succ d ih =>
    intro i hi
    rw [show k + (d + 1) + 1 = (k + d + 1) + 1 by omega, vernierref01_Number.l0, if_pos (by omega), if_pos (by omega), h3 i (by omega)]
    have hw : wrap64 ((i : Int) + 1) = ((i + 1 : Nat) : Int) := by unfold wrap64; omega
    have hv : v / 2 ^ d < 2 ^ 64 := Nat.lt_of_lt_of_le (Nat.lt_of_le_of_lt (Nat.div_le_self _ _) h2) (pow_le hlen)
    have e : IntKind.u64.wrap (IntKind.u64.wrap (2 * ((v / 2 ^ (d + 1) : Nat) : Int)) + (((bitc len v i : Nat) : Int) - 48) % 256) = ((v / 2 ^ d : Nat) : Int) := by
      unfold bitc
      rw [show len - 1 - i = d by omega, Nat.pow_succ, ← Nat.div_div_eq_div_mul, u64w, u64w]
      rw [p64] at hv
      generalize v / 2 ^ d = z at *
      omega
    rw [e, hw]
    exact ih (i + 1) (by omega)
theorem number_bits {b : ByteArray} {len v : Nat} (h : IsBits b len v) (hlen : len ≤ 64) (k : Nat) : vernierref01_Number.f (k + 66) b = some (v : Int) := by
  unfold vernierref01_Number.f
  have := number_l0 h hlen (k + 65 - len) len 0 (by omega)
  rw [Nat.div_eq_of_lt h.2.1, show k + 65 - len + len + 1 = k + 66 by omega] at this
  exact this
theorem isw_yes {n : Nat} (h : Wd n) : vernierref05_Is.f (n : Int) = some true := by rcases h with rfl | rfl | rfl | rfl <;> decide
theorem isw_no {n : Int} (h : ¬ (n = 8 ∨ n = 16 ∨ n = 32 ∨ n = 64)) : vernierref05_Is.f n = some false := by
  unfold vernierref05_Is.f
  rw [if_neg (by omega), if_neg (by omega), if_neg (by omega)]
  congr 1
  exact beq_eq_false_iff_ne.mpr (by omega)
theorem rfold5_yes {n : Nat} (h : Wd n) (x : Nat) (k : Nat) : vernierref05_Fold.f (k + 66) (n : Int) (x : Int) = some (((x % 2 ^ n : Nat) : Int), 0) := by
  unfold vernierref05_Fold.f
  rw [isw_yes h]
  simp only [Option.bind_some, if_true]
  obtain ⟨b, h1, h2⟩ := text_bits x h.bd.2 k
  rw [h1]
  simp only [Option.bind_some]
  rw [number_bits h2 h.bd.2]
  rfl
theorem rfold_yes {n : Nat} (h : Wd n) (x : Nat) (k : Nat) : vernierref06_Fold.f (k + 66) (n : Int) (x : Int) = some ((x % 2 ^ n : Nat) : Int) := by
  unfold vernierref06_Fold.f
  rw [rfold5_yes h]
  rfl
theorem power_l0 (n : Nat) (hn : n ≤ 63) (k : Nat) : ∀ d i : Nat, i + d = n → vernierref05_Power.l0 (k + d + 1) (n : Int) ((2 ^ i : Nat) : Int) (i : Int) = some ((2 ^ n : Nat) : Int) := by
  intro d
  induction d with
  | zero => intro i hi; rw [vernierref05_Power.l0, if_neg (by omega), show i = n by omega]
  | succ d ih =>
    intro i hi
    rw [show k + (d + 1) + 1 = (k + d + 1) + 1 by omega, vernierref05_Power.l0, if_pos (by omega)]
    have hw : wrap64 ((i : Int) + 1) = ((i + 1 : Nat) : Int) := by unfold wrap64; omega
    have e : IntKind.u64.wrap (2 * ((2 ^ i : Nat) : Int)) = ((2 ^ (i + 1) : Nat) : Int) := by
      have h1 : 2 ^ (i + 1) ≤ 2 ^ 63 := pow_le (by omega)
      rw [Nat.pow_succ] at h1 ⊢
      rw [p63] at h1
      rw [u64w]
      omega
    rw [e, hw]
    exact ih (i + 1) (by omega)
theorem power_val {n : Nat} (hn : n ≤ 63) (k : Nat) : vernierref05_Power.f (k + 66) (n : Int) = some ((2 ^ n : Nat) : Int) := by
  unfold vernierref05_Power.f
  have := power_l0 n hn (k + 65 - n) n 0 (by omega)
  rw [show k + 65 - n + n + 1 = k + 66 by omega] at this
  exact this
end Go.Proofs.Ytnlbfomlfhigcaa.M
namespace Go.Proofs.Ytnlbfomlfhigcaa.Q
open Go.RowKit Go.Proofs.YtnlbfomlfhigcaaW.PrintWords Go.Proofs.YtnlbfomlfhigcaaW.PrintLast Go.Proofs.YtnlbfomlfhigcaaW.PrintMore
attribute [local go_sem] max2_int min2_int max_two min_two max_three min_three max_four min_four
set_option linter.unusedVariables false
set_option linter.unusedSimpArgs false
end Go.Proofs.Ytnlbfomlfhigcaa.Q
namespace Go.Proofs.Ytnlbfomlfhigcaa.M
open Go.RowKit Go.Proofs.YtnlbfomlfhigcaaW.PrintWords Go.Proofs.YtnlbfomlfhigcaaW.PrintLast Go.Proofs.YtnlbfomlfhigcaaW.PrintMore Go.Proofs.Ytnlbfomlfhigcaa.Q
def NoW (n : Int) : Prop := ¬ (n = 8 ∨ n = 16 ∨ n = 32 ∨ n = 64)
theorem wd_or (n : Int) : (∃ m : Nat, n = (m : Int) ∧ Wd m) ∨ NoW n := by
  unfold NoW Wd
  by_cases h : n = 8 ∨ n = 16 ∨ n = 32 ∨ n = 64
  · left; exact ⟨n.toNat, by omega, by omega⟩
  · right; exact h
theorem of_real (k : Nat) (neg : Bool) {s : Int} {f : Nat} (h1 : 2 ^ 63 ≤ f) (h2 : f < 2 ^ 64) (h3 : -1073741824 ≤ s) (h4 : s ≤ 1073741824) : round_Of.f (k + 1) 1 neg s (f : Int) = some (1, neg, s, (f : Int), 0, false, none) := by
  unfold round_Of.f
  have h := sound_real (l := 0) k neg false (s := s) h1 h2 (by omega) (by omega)
  have h' : round_sound.f (k + 1) 1 neg s (f : Int) 0 false = some true := h
  rw [h']
  simp only [Option.bind_some, if_true]
  rw [if_neg (by omega), if_neg (by omega)]
theorem of_zero (k : Nat) : round_Of.f (k + 1) 0 false 0 0 = some (0, false, 0, 0, 0, false, none) := by
  unfold round_Of.f
  rw [sound_zero]
  rfl
theorem of_nar (k : Nat) : round_Of.f (k + 1) 2 false 0 0 = some (2, false, 0, 0, 0, false, none) := by
  unfold round_Of.f
  rw [sound_nar]
  rfl
theorem sg_lt {n : Nat} (hn : Wd n) (neg : Bool) {p : Nat} (h1 : 1 ≤ p) (h2 : p < 2 ^ (n - 1)) : sg n neg p < 2 ^ n := by
  have := two_half hn
  unfold sg
  split <;> omega
theorem sg_mag {n y : Nat} (hy : y < 2 ^ n) : sg n (sgn n y) (mag n y) = y := by
  unfold sg sgn mag
  by_cases c : 2 ^ (n - 1) ≤ y
  · rw [if_pos c, decide_eq_true c, if_pos rfl]; omega
  · rw [if_neg c, decide_eq_false c, if_neg (by decide)]
theorem ext_l0 {b : ByteArray} {n v : Nat} (h : IsBits b n v) (hn : n ≤ 64) (t : Nat) (ht : t = v / 2 ^ (n - 1)) (ht1 : 1 ≤ n) (k : Nat) : ∀ d i : Nat, i + d = n → 1 ≤ i →
    vernierref01_Extend.l0 (k + d + 1) (n : Int) b (((v / 2 ^ d : Nat) : Int) - ((t * 2 ^ i : Nat) : Int)) (i : Int) = some ((v : Int) - ((t * 2 ^ n : Nat) : Int), 0) := by
  obtain ⟨h1, h2, h3⟩ := h
  have ht2 : t ≤ 1 := by
    have : v / 2 ^ (n - 1) < 2 := by
      rw [Nat.div_lt_iff_lt_mul (pow_pos _)]
      have e : 2 ^ n = 2 * 2 ^ (n - 1) := by rw [← Nat.pow_succ']; exact congrArg (2 ^ ·) (by omega)
      omega
    omega
  intro d
  induction d with
  | zero =>
    intro i hi _
    rw [vernierref01_Extend.l0, if_neg (by omega), Nat.pow_zero, Nat.div_one, show i = n by omega]
  | succ d ih =>
    intro i hi hi1
    rw [show k + (d + 1) + 1 = (k + d + 1) + 1 by omega, vernierref01_Extend.l0, if_pos (by omega), if_pos (by omega), if_pos (by omega), h3 i (by omega)]
    have hw : wrap64 ((i : Int) + 1) = ((i + 1 : Nat) : Int) := by unfold wrap64; omega
    have hz : v / 2 ^ (d + 1) = v / 2 ^ d / 2 := by rw [Nat.pow_succ, ← Nat.div_div_eq_div_mul]
    have hzb : v / 2 ^ d < 2 ^ (i + 1) := by
      rw [Nat.div_lt_iff_lt_mul (pow_pos _), ← Nat.pow_add, show i + 1 + d = n by omega]
      exact h2
    have hi2 : 2 ^ i ≤ 2 ^ 63 := pow_le (by omega)
    have htop : t = 1 → 2 ^ i ≤ v / 2 ^ d := by
      intro e
      rw [e] at ht
      have : v / 2 ^ (n - 1) = v / 2 ^ d / 2 ^ i := by rw [Nat.div_div_eq_div_mul, ← Nat.pow_add]; exact congrArg (fun z => v / 2 ^ z) (by omega)
      rw [this] at ht
      have := (Nat.le_div_iff_mul_le (pow_pos i)).1 (show 1 ≤ v / 2 ^ d / 2 ^ i by omega)
      omega
    have htop0 : t = 0 → v / 2 ^ d < 2 ^ i := by
      intro e
      rw [e] at ht
      have : v / 2 ^ (n - 1) = v / 2 ^ d / 2 ^ i := by rw [Nat.div_div_eq_div_mul, ← Nat.pow_add]; exact congrArg (fun z => v / 2 ^ z) (by omega)
      rw [this] at ht
      exact Nat.lt_of_div_eq_zero (pow_pos i) ht.symm
    have e : wrap64 (wrap64 (2 * (((v / 2 ^ (d + 1) : Nat) : Int) - ((t * 2 ^ i : Nat) : Int))) + (((bitc n v i : Nat) : Int) - 48) % 256) = ((v / 2 ^ d : Nat) : Int) - ((t * 2 ^ (i + 1) : Nat) : Int) := by
      unfold bitc
      rw [show n - 1 - i = d by omega, hz]
      rw [Nat.pow_succ] at hzb ⊢
      clear hz h2 h3 ih ht
      generalize v / 2 ^ d = z at *
      rw [p63] at hi2
      generalize 2 ^ i = q at *
      unfold wrap64
      have : t = 0 ∨ t = 1 := by omega
      rcases this with rfl | rfl
      · have := htop0 rfl
        omega
      · have := htop rfl
        omega
    rw [e, hw]
    exact ih (i + 1) (by omega) (by omega)
theorem rrank_yes {n : Nat} (h : Wd n) (x : Nat) (k : Nat) : vernierref05_Rank.f (k + 70) (n : Int) (x : Int) = some (rk n (x % 2 ^ n), 0) := by
  have hb := h.bd
  have e2 := two_half h
  unfold vernierref05_Rank.f
  rw [isw_yes h]
  simp only [Option.bind_some, if_true]
  unfold vernierref01_Extend.f
  rw [if_neg (by omega), show decide ((n : Int) > 64) = false by simp; omega, show k + 70 = (k + 69) + 1 from rfl, vernierref01_Extend.j0, if_neg (by decide)]
  obtain ⟨b, h1, h2⟩ := text_bits x hb.2 (k + 3)
  rw [h1]
  simp only [Option.bind_some]
  have hs := h2.1
  have h0 := h2.2.2 0 (by omega)
  have hv := h2.2.1
  rw [if_pos (by omega)]
  have h0' : bt b 0 = ((bitc n (x % 2 ^ n) 0 : Nat) : Int) := h0
  rw [h0']
  have ht : x % 2 ^ n / 2 ^ (n - 1) < 2 := by
    rw [Nat.div_lt_iff_lt_mul (pow_pos _)]
    omega
  have hx := ext_l0 h2 hb.2 _ rfl (by omega) (k + 68 - n) (n - 1) 1 (by omega) (by omega)
  rw [show k + 68 - n + (n - 1) + 1 = k + 68 by omega] at hx
  unfold bitc
  rw [Nat.sub_zero]
  unfold rk
  by_cases c : x % 2 ^ n / 2 ^ (n - 1) = 1
  · have c2 : ¬ x % 2 ^ n < 2 ^ (n - 1) := by
      intro h3
      rw [Nat.div_eq_of_lt h3] at c
      omega
    rw [c] at hx ⊢
    rw [if_pos (by decide), show k + 69 = (k + 68) + 1 from rfl, vernierref01_Extend.j1, if_neg c2]
    have hx' : vernierref01_Extend.l0 (k + 68) (n : Int) b (-1) 1 = some (((x % 2 ^ n : Nat) : Int) - ((1 * 2 ^ n : Nat) : Int), 0) := hx
    rw [hx', Nat.one_mul]
    rfl
  · have c1 : x % 2 ^ n / 2 ^ (n - 1) = 0 := Nat.lt_one_iff.mp (Nat.lt_of_le_of_ne (Nat.le_of_lt_succ ht) c)
    have c2 : x % 2 ^ n < 2 ^ (n - 1) := Nat.lt_of_div_eq_zero (pow_pos _) c1
    rw [c1] at hx ⊢
    rw [if_neg (by decide), show k + 69 = (k + 68) + 1 from rfl, vernierref01_Extend.j1, if_pos c2]
    have hx' : vernierref01_Extend.l0 (k + 68) (n : Int) b 0 1 = some (((x % 2 ^ n : Nat) : Int) - ((0 * 2 ^ n : Nat) : Int), 0) := hx
    rw [hx', Nat.zero_mul, Option.bind_some]
    rw [show (((x % 2 ^ n : Nat) : Int) - ((0 : Nat) : Int)) = ((x % 2 ^ n : Nat) : Int) by omega]
def cmpI (x y : Int) : Int := if x < y then -1 else if x > y then 1 else 0
theorem rcmp_yes {n : Nat} (h : Wd n) (x y : Nat) (k : Nat) : vernierref08_Cmp.f (k + 70) (n : Int) (x : Int) (y : Int) = some (cmpI (rk n (x % 2 ^ n)) (rk n (y % 2 ^ n))) := by
  unfold vernierref08_Cmp.f vernierref08_Cmps.f
  rw [rrank_yes h, rrank_yes h]
  simp only [Option.bind_some, if_true]
  unfold cmpI
  split
  · rfl
  · split <;> rfl
end Go.Proofs.Ytnlbfomlfhigcaa.M
namespace Go.Proofs.Ytnlbfomlfhigcaa.Q
open Go.RowKit Go.Proofs.YtnlbfomlfhigcaaW.PrintWords Go.Proofs.YtnlbfomlfhigcaaW.PrintLast Go.Proofs.YtnlbfomlfhigcaaW.PrintMore
attribute [local go_sem] max2_int min2_int max_two min_two max_three min_three max_four min_four
set_option linter.unusedVariables false
set_option linter.unusedSimpArgs false
end Go.Proofs.Ytnlbfomlfhigcaa.Q
namespace Go.Proofs.Ytnlbfomlfhigcaa.M
open Go.RowKit Go.Proofs.YtnlbfomlfhigcaaW.PrintWords Go.Proofs.YtnlbfomlfhigcaaW.PrintLast Go.Proofs.YtnlbfomlfhigcaaW.PrintMore Go.Proofs.Ytnlbfomlfhigcaa.Q
inductive Mn where
  | zero
  | nar
  | real (n : Bool) (s : Int) (f : Nat)
def Mn.k : Mn → Int
  | .zero => 0
  | .nar => 2
  | .real _ _ _ => 1
def Mn.n : Mn → Bool
  | .real n _ _ => n
  | _ => false
def Mn.s : Mn → Int
  | .real _ s _ => s
  | _ => 0
def Mn.f : Mn → Nat
  | .real _ _ f => f
  | _ => 0
def Means (n y : Nat) : Mn → Prop
  | .zero => y = 0
  | .nar => y = 2 ^ (n - 1)
  | .real g s f => knd n y = 1 ∧ g = sgn n y ∧ Dec n (mag n y) s f
theorem Means.bd {n y : Nat} {g : Bool} {s : Int} {f : Nat} (h : Means n y (.real g s f)) : 2 ^ 63 ≤ f ∧ f < 2 ^ 64 ∧ 8 - 4 * (n : Int) ≤ s ∧ s ≤ 4 * (n : Int) - 8 := by
  obtain ⟨_, _, h1, h2, h3, h4, _⟩ := h
  exact ⟨h1, h2, h3, h4⟩
theorem decodes {n p : Nat} (hn : Wd n) (hp : p < 2 ^ 64) : ∃ m, Means n (p % 2 ^ n) m ∧ ∀ k, codec_Decode.f (k + 8) (n : Int) (p : Int) = some (m.k, m.n, m.s, (m.f : Int), none) := by
  rcases knd_cases n (p % 2 ^ n) with ⟨h0, h1⟩ | h1 | ⟨h0, h1⟩
  · exact ⟨.zero, h1, fun k => decode_zero hn hp h0 _⟩
  · obtain ⟨s, f, hd, hf⟩ := decode_real hn hp h1
    exact ⟨.real (sgn n (p % 2 ^ n)) s f, ⟨h1, rfl, hd⟩, hf⟩
  · exact ⟨.nar, h1, fun k => decode_nar hn hp h0 _⟩
theorem sout_self {h l : Nat} {s u : Int} {n : Bool} (h1 : 2 ^ 63 ≤ h) (h2 : h < 2 ^ 64) (h3 : l < 2 ^ 64) (b1 : -1099511627776 ≤ s) (b2 : s ≤ 1099511627776) (hu : u ≤ s - 127) :
    Sout u (vl u n s (h * 2 ^ 64 + l)) (some (1, n, s, (h : Int), (l : Int), false)) := by
  have hF : 2 ^ 127 ≤ h * 2 ^ 64 + l ∧ h * 2 ^ 64 + l < 2 ^ 128 := by omega
  have hH : Hi 127 (h * 2 ^ 64 + l) := hF
  have hF0 : h * 2 ^ 64 + l ≠ 0 := by omega
  have t1 : tF 127 (h * 2 ^ 64 + l) = h * 2 ^ 64 + l := Nat.mul_div_cancel _ (pow_pos 127)
  have t2 : tB 127 (h * 2 ^ 64 + l) = false := decide_eq_false (by rw [Nat.mul_mod_left]; simp)
  have e0 : (h * 2 ^ 64 + l) / 2 ^ 64 = h := by omega
  have e1 : (h * 2 ^ 64 + l) % 2 ^ 64 = l := by omega
  have hs : hld s = s := by unfold hld mx mn; omega
  generalize hc : (s - 127 - u).toNat = c
  have hZ : (vl u n s (h * 2 ^ 64 + l)).natAbs = (h * 2 ^ 64 + l) * 2 ^ c := by
    unfold vl
    rw [sv_abs, hc]
  have hp := pow_pos c
  have hne : (h * 2 ^ 64 + l) * 2 ^ c ≠ 0 := Nat.mul_ne_zero hF0 (by omega)
  refine .inr ⟨127 + c, by rw [hZ]; exact hH.mul c, ?_⟩
  rw [hZ, tF_mul, tB_mul, t1, t2, e0, e1]
  have e2 : decide (vl u n s (h * 2 ^ 64 + l) < 0) = n := by
    unfold vl
    rw [hc]
    exact sv_neg hne
  have e3 : u + ((127 + c : Nat) : Int) = s := by omega
  rw [e2, e3, hs]
def Xout (u : Int) : Option Int → Option (Int × Bool × Int × Int × Int × Bool) → Prop
  | none, r => r = some (2, false, 0, 0, 0, false)
  | some Z, r => Sout u Z r
def Mn.v (u : Int) : Mn → Option Int
  | .zero => some 0
  | .nar => none
  | .real n s f => some (vl u n s (f * 2 ^ 64))
def oadd : Option Int → Option Int → Option Int
  | some a, some b => some (a + b)
  | _, _ => none
theorem mn_of {w y : Nat} (hw : Wd w) {m : Mn} (h : Means w y m) (k : Nat) : round_Of.f (k + 1) m.k m.n m.s (m.f : Int) = some (m.k, m.n, m.s, (m.f : Int), 0, false, none) := by
  have hb := hw.bd
  cases m with
  | zero => exact of_zero k
  | nar => exact of_nar k
  | real n s f =>
    obtain ⟨h1, h2, h3, h4⟩ := h.bd
    have e := of_real k n (s := s) h1 h2 (by omega) (by omega)
    exact e
theorem sum_mn {w y w' y' : Nat} (hw : Wd w) (hw' : Wd w') {m m' : Mn} (h : Means w y m) (h' : Means w' y' m') {u : Int} (hu : u ≤ -400) (k : Nat) :
    Xout u (oadd (m.v u) (m'.v u)) (broad_Sum.f (k + 6) m.k m.n m.s (m.f : Int) 0 false m'.k m'.n m'.s (m'.f : Int) 0 false) := by
  have hb := hw.bd
  have hb' := hw'.bd
  cases m with
  | nar => cases m' <;> exact sum_nar_l (k + 5) _ _ _ _ _ _ _ _ _ _ _
  | zero =>
    cases m' with
    | nar => exact sum_nar_r (k + 5) _ _ _ _ _ _ _ _ _ _ _ (by decide)
    | zero => exact .inl ⟨rfl, sum_zero_l (k + 5) _ _ _ _ _ 0 (.inl rfl)⟩
    | real n s f =>
      obtain ⟨h1, h2, h3, h4⟩ := h'.bd
      have e := sum_zero_l (k + 5) n s (f : Int) 0 false 1 (.inr rfl)
      have hs := sout_self (l := 0) (n := n) (u := u) h1 h2 (by decide) (show -1099511627776 ≤ s by omega) (by omega) (by omega)
      rw [Nat.add_zero] at hs
      show Sout u (0 + vl u n s (f * 2 ^ 64)) (broad_Sum.f (k + 6) 0 false 0 0 0 false 1 n s (f : Int) 0 false)
      rw [show k + 6 = (k + 5) + 1 from rfl, e, Int.zero_add]
      exact hs
  | real n s f =>
    obtain ⟨h1, h2, h3, h4⟩ := h.bd
    cases m' with
    | nar => exact sum_nar_r (k + 5) _ _ _ _ _ _ _ _ _ _ _ (by show (1 : Int) ≠ 2; decide)
    | zero =>
      have e := sum_zero_r (k + 5) n s (f : Int) 0 false
      have hs := sout_self (l := 0) (n := n) (u := u) h1 h2 (by decide) (show -1099511627776 ≤ s by omega) (by omega) (by omega)
      rw [Nat.add_zero] at hs
      show Sout u (vl u n s (f * 2 ^ 64) + 0) (broad_Sum.f (k + 6) 1 n s (f : Int) 0 false 0 false 0 0 0 false)
      rw [show k + 6 = (k + 5) + 1 from rfl, e, Int.add_zero]
      exact hs
    | real n' s' f' =>
      obtain ⟨h1', h2', h3', h4'⟩ := h'.bd
      have hs := sum_spec (lx := 0) (ly := 0) (n := n) (m := n') (sx := s) (sy := s') (u := u) h1 h2 (by decide) h1' h2' (by decide) (by omega) (by omega) (by omega) (by omega) (by omega) (by omega) k
      rw [Nat.add_zero, Nat.add_zero] at hs
      exact hs
noncomputable def RZ (n : Nat) (u : Int) : Option Int → Nat
  | none => 2 ^ (n - 1)
  | some Z => if Z = 0 then 0 else sg n (decide (Z < 0)) (rpos n (u + (Nat.log2 Z.natAbs : Int)) (tF (Nat.log2 Z.natAbs) Z.natAbs) (tB (Nat.log2 Z.natAbs) Z.natAbs))
theorem RZ_zero (n : Nat) (u : Int) : RZ n u (some 0) = 0 := by
  unfold RZ
  exact if_pos rfl
theorem RZ_some {n : Nat} {u Z : Int} (h : Z ≠ 0) : RZ n u (some Z) = sg n (decide (Z < 0)) (rpos n (u + (Nat.log2 Z.natAbs : Int)) (tF (Nat.log2 Z.natAbs) Z.natAbs) (tB (Nat.log2 Z.natAbs) Z.natAbs)) := by
  unfold RZ
  exact if_neg h
theorem Hi.log {j N : Nat} (h : Hi j N) : Nat.log2 N = j := by
  have hN : N ≠ 0 := by
    have := h.1
    have := pow_pos j
    omega
  exact Hi.uniq ⟨Nat.log2_self_le hN, Nat.lt_log2_self⟩ h
theorem Hi.ne {j N : Nat} (h : Hi j N) : N ≠ 0 := by
  have := h.1
  have := pow_pos j
  omega
theorem round_xout {n : Nat} (hn : Wd n) {u : Int} {κ : Option Int} {r : Option (Int × Bool × Int × Int × Int × Bool)} (h : Xout u κ r) (hu : ∀ Z j, κ = some Z → Hi j Z.natAbs → -1099511627776 ≤ u + (j : Int) ∧ u + (j : Int) ≤ 1099511627776) (k : Nat) :
    ∃ t, r = some t ∧ round_Round.f (k + 80) (n : Int) t.1 t.2.1 t.2.2.1 t.2.2.2.1 t.2.2.2.2.1 t.2.2.2.2.2 = some ((RZ n u κ : Int), none) := by
  cases κ with
  | none => exact ⟨_, h, round_nar hn (k + 79)⟩
  | some Z =>
    rcases h with ⟨h1, h2⟩ | ⟨j, h1, h2⟩
    · refine ⟨_, h2, ?_⟩
      rw [h1, RZ_zero]
      exact round_zero hn (k + 79)
    · have hZ0 : Z ≠ 0 := by
        intro hz
        rw [hz] at h1
        exact h1.ne rfl
      have hb := tF_bd h1
      obtain ⟨u1, u2⟩ := hu Z j rfl h1
      have hs : hld (u + (j : Int)) = u + (j : Int) := by unfold hld mx mn; omega
      refine ⟨_, h2, ?_⟩
      rw [RZ_some hZ0, h1.log]
      simp only
      rw [hs]
      generalize tF j Z.natAbs = F at *
      have e : F / 2 ^ 64 * 2 ^ 64 + F % 2 ^ 64 = F := by omega
      have hr := round_real hn (decide (Z < 0)) (tB j Z.natAbs) (s := u + (j : Int)) (h := F / 2 ^ 64) (l := F % 2 ^ 64) (by omega) (by omega) (by omega) u1 u2 k
      rw [e] at hr
      exact hr
end Go.Proofs.Ytnlbfomlfhigcaa.M
