/- Walks and plain laws that the claim stands on: each theorem named calls says that a call of a function returns what its f computes; the others are plain laws of these f, and the words that the walks use. -/
import Derived.Test.YtnlbfomlfhigcaaGenConvertsV18
import Derived.Test.YtnlbfomlfhigcaaGenConvertsV17
import Derived.Test.YtnlbfomlfhigcaaGenConvertsV6
import Derived.Test.YtnlbfomlfhigcaaGenConvertsV7
import Derived.Test.YtnlbfomlfhigcaaGenConvertsV15
import Derived.Test.YtnlbfomlfhigcaaGenConvertsV16
namespace Go.Proofs.Ytnlbfomlfhigcaa.M
open Go.RowKit Go.Proofs.YtnlbfomlfhigcaaW.PrintWords Go.Proofs.YtnlbfomlfhigcaaW.PrintLast Go.Proofs.YtnlbfomlfhigcaaW.PrintMore Go.Proofs.Ytnlbfomlfhigcaa.Q
def hiY (Y : Nat) : Int := ((Y / 2 ^ 72 / 2 ^ 64 : Nat) : Int)
def loY (Y : Nat) : Int := ((Y / 2 ^ 72 % 2 ^ 64 : Nat) : Int)
def reY (b : Bool) (Y : Nat) : Bool := b || decide (Y % 2 ^ 72 ≠ 0)
set_option maxRecDepth 20000 in
theorem under_Y {Y m c : Nat} (b : Bool) (hY : Y < 2 ^ 200) (hm : m = 1 ∨ m = 2) (hc : c < 2 ^ m) (hd : Y % 2 ^ m = 0) :
    round_under.f (hiY Y) (loY Y) (c : Int) (m : Int) (reY b Y) = some (hiY (Y / 2 ^ m + c * 2 ^ (200 - m)), loY (Y / 2 ^ m + c * 2 ^ (200 - m)), reY b (Y / 2 ^ m + c * 2 ^ (200 - m))) := by
  unfold round_under.f hiY loY
  have hW : Y / 2 ^ 72 < 2 ^ 128 := by omega
  have hWd : Y / 2 ^ 72 / 2 ^ 64 * 2 ^ 64 + Y / 2 ^ 72 % 2 ^ 64 = Y / 2 ^ 72 := by rw [Nat.mul_comm]; exact Nat.div_add_mod _ _
  rw [Shr_tw (j := m) (by omega) (Nat.mod_lt _ (by decide)) (by omega), hWd]
  simp only [Option.bind_some]
  have hw : wrap64 (64 - (m : Int)) = ((64 - m : Nat) : Int) := by unfold wrap64; omega
  rw [hw, if_pos (by omega), shl_nat c (64 - m) (by omega)]
  have hcs : c * 2 ^ (64 - m) % 2 ^ 64 = c * 2 ^ (64 - m) := Nat.mod_eq_of_lt (by rcases hm with rfl | rfl <;> simp only [Nat.reduceSub] <;> omega)
  have hor : Go.bits .or .u64 ((Y / 2 ^ 72 / 2 ^ m / 2 ^ 64 : Nat) : Int) ((c * 2 ^ (64 - m) : Nat) : Int) = ((c * 2 ^ (64 - m) + Y / 2 ^ 72 / 2 ^ m / 2 ^ 64 : Nat) : Int) := by
    have h1 : Y / 2 ^ 72 / 2 ^ m / 2 ^ 64 < 2 ^ (64 - m) := by rcases hm with rfl | rfl <;> simp only [Nat.reduceSub] <;> omega
    have h2 : c * 2 ^ (64 - m) < 2 ^ 64 := by rcases hm with rfl | rfl <;> simp only [Nat.reduceSub] <;> omega
    have h3 := or_add (c * 2 ^ (64 - m)) (Y / 2 ^ 72 / 2 ^ m / 2 ^ 64) (64 - m) h2 h1 (by omega) (Nat.mul_mod_left _ _)
    rw [or_nat _ _ h2 (by have : 2 ^ (64 - m) ≤ 2 ^ 64 := pow_le (by omega); omega)] at h3
    rw [or_nat _ _ (by have : 2 ^ (64 - m) ≤ 2 ^ 64 := pow_le (by omega); omega) h2, Nat.or_comm, h3]
  rw [hcs, hor]
  have hC : c * 2 ^ (200 - m) = c * 2 ^ (64 - m) * 2 ^ 64 * 2 ^ 72 := by rw [Nat.mul_assoc, Nat.mul_assoc, ← Nat.pow_add, ← Nat.pow_add]; exact congrArg (fun z => c * 2 ^ z) (by omega)
  rw [hC]
  generalize c * 2 ^ (64 - m) = C at *
  have a1 : C + Y / 2 ^ 72 / 2 ^ m / 2 ^ 64 = (Y / 2 ^ m + C * 2 ^ 64 * 2 ^ 72) / 2 ^ 72 / 2 ^ 64 := by rcases hm with rfl | rfl <;> omega
  have a2 : Y / 2 ^ 72 / 2 ^ m % 2 ^ 64 = (Y / 2 ^ m + C * 2 ^ 64 * 2 ^ 72) / 2 ^ 72 % 2 ^ 64 := by rcases hm with rfl | rfl <;> omega
  have a3 : ((Y % 2 ^ 72 ≠ 0) ∨ (Y / 2 ^ 72 % 2 ^ m ≠ 0)) ↔ (Y / 2 ^ m + C * 2 ^ 64 * 2 ^ 72) % 2 ^ 72 ≠ 0 := by rcases hm with rfl | rfl <;> omega
  rw [a1, a2]
  unfold reY
  by_cases c1 : Y % 2 ^ 72 ≠ 0
  · rw [decide_eq_true c1, decide_eq_true (a3.1 (.inl c1)), Bool.or_true, if_pos rfl]
  · rw [decide_eq_false c1]
    by_cases c2 : Y / 2 ^ 72 % 2 ^ m ≠ 0
    · rw [decide_eq_true c2, decide_eq_true (a3.1 (.inr c2))]
      cases b <;> simp
    · have : ¬ (Y / 2 ^ m + C * 2 ^ 64 * 2 ^ 72) % 2 ^ 72 ≠ 0 := fun h => (a3.2 h).elim c1 c2
      rw [decide_eq_false c2, decide_eq_false this]
      cases b <;> simp
def lft (n Y : Nat) (b : Bool) : Nat :=
  if 2 ^ (201 - n) < 2 * (Y % 2 ^ (201 - n)) + b.toNat then 3 else if 2 ^ (201 - n) = 2 * (Y % 2 ^ (201 - n)) + b.toNat then 2 else if 0 < 2 * (Y % 2 ^ (201 - n)) + b.toNat then 1 else 0
theorem left_val (k : Nat) (x : Nat) (b : Bool) : round_left.f (k + 1) (x : Int) b = some (((if 9223372036854775808 < x ∨ (x = 9223372036854775808 ∧ b = true) then 3 else if x = 9223372036854775808 then 2 else if 0 < x ∨ b = true then 1 else 0 : Nat) : Nat) : Int) := by
  unfold round_left.f
  simp only [round_left.j0]
  have i1 : ((x : Int) > 9223372036854775808) ↔ 9223372036854775808 < x := by omega
  have i2 : ((x : Int) = 9223372036854775808) ↔ x = 9223372036854775808 := by omega
  have i3 : ((x : Int) > 0) ↔ 0 < x := by omega
  simp only [i1, i2, i3]
  by_cases c1 : 9223372036854775808 < x
  · simp [c1]
  · by_cases c2 : x = 9223372036854775808
    · subst c2
      cases b <;> simp
    · by_cases c3 : 0 < x <;> cases b <;> simp [c1, c2, c3]
theorem j3_Y {n Y : Nat} (hn : Wd n) (b : Bool) (hY : Y < 2 ^ 200) (k : Nat) :
    round_Cut.j3 (k + 2) (n : Int) (reY b Y) (hiY Y) (loY Y) = some (((Y / 2 ^ (201 - n) : Nat) : Int), ((lft n Y b : Nat) : Int), none) := by
  have hb := hn.bd
  simp only [round_Cut.j3]
  have hw1 : wrap64 (65 - (n : Int)) = ((65 - n : Nat) : Int) := by unfold wrap64; omega
  have hw2 : wrap64 ((n : Int) - 1) = ((n - 1 : Nat) : Int) := by unfold wrap64; omega
  rw [hw1, hw2, if_pos (by omega)]
  unfold hiY loY
  have hW : Y / 2 ^ 72 < 2 ^ 128 := by omega
  have hWd : Y / 2 ^ 72 / 2 ^ 64 * 2 ^ 64 + Y / 2 ^ 72 % 2 ^ 64 = Y / 2 ^ 72 := by rw [Nat.mul_comm]; exact Nat.div_add_mod _ _
  obtain ⟨bb, hS⟩ := Shl_tw (h := Y / 2 ^ 72 / 2 ^ 64) (l := Y / 2 ^ 72 % 2 ^ 64) (j := n - 1) (by omega) (Nat.mod_lt _ (by decide)) (by omega)
  rw [hS, hWd]
  simp only [Option.bind_some]
  rw [shr_nat _ (65 - n) (by omega)]
  have a1 : Y / 2 ^ 72 / 2 ^ 64 / 2 ^ (65 - n) = Y / 2 ^ (201 - n) := by
    rw [Nat.div_div_eq_div_mul, Nat.div_div_eq_div_mul, ← Nat.pow_add, ← Nat.pow_add]
    exact congrArg (fun z => Y / 2 ^ z) (by omega)
  rw [a1]
  have hbb := toNat_le b
  have hbt : b.toNat = 1 ↔ b = true := by cases b <;> simp
  have key : ∀ r : Bool, (r = true ↔ (b = true ∨ Y % 2 ^ 72 ≠ 0 ∨ Y / 2 ^ 72 * 2 ^ (n - 1) % 2 ^ 64 ≠ 0)) →
      (if 9223372036854775808 < Y / 2 ^ 72 * 2 ^ (n - 1) % 2 ^ 128 / 2 ^ 64 ∨ (Y / 2 ^ 72 * 2 ^ (n - 1) % 2 ^ 128 / 2 ^ 64 = 9223372036854775808 ∧ r = true) then 3 else if Y / 2 ^ 72 * 2 ^ (n - 1) % 2 ^ 128 / 2 ^ 64 = 9223372036854775808 then 2 else if 0 < Y / 2 ^ 72 * 2 ^ (n - 1) % 2 ^ 128 / 2 ^ 64 ∨ r = true then 1 else 0 : Nat) = lft n Y b := by
    intro r hr
    unfold lft
    simp only [hr, ← hbt]
    generalize b.toNat = t at *
    have b1 : (9223372036854775808 < Y / 2 ^ 72 * 2 ^ (n - 1) % 2 ^ 128 / 2 ^ 64 ∨ (Y / 2 ^ 72 * 2 ^ (n - 1) % 2 ^ 128 / 2 ^ 64 = 9223372036854775808 ∧ (t = 1 ∨ Y % 2 ^ 72 ≠ 0 ∨ Y / 2 ^ 72 * 2 ^ (n - 1) % 2 ^ 64 ≠ 0))) ↔ 2 ^ (201 - n) < 2 * (Y % 2 ^ (201 - n)) + t := by
      rcases hn with rfl | rfl | rfl | rfl <;> simp only [Nat.reduceSub] <;> omega
    have b2 : ¬ (2 ^ (201 - n) < 2 * (Y % 2 ^ (201 - n)) + t) → (Y / 2 ^ 72 * 2 ^ (n - 1) % 2 ^ 128 / 2 ^ 64 = 9223372036854775808 ↔ 2 ^ (201 - n) = 2 * (Y % 2 ^ (201 - n)) + t) := by
      rcases hn with rfl | rfl | rfl | rfl <;> simp only [Nat.reduceSub] <;> omega
    have b3 : (0 < Y / 2 ^ 72 * 2 ^ (n - 1) % 2 ^ 128 / 2 ^ 64 ∨ (t = 1 ∨ Y % 2 ^ 72 ≠ 0 ∨ Y / 2 ^ 72 * 2 ^ (n - 1) % 2 ^ 64 ≠ 0)) ↔ 0 < 2 * (Y % 2 ^ (201 - n)) + t := by
      rcases hn with rfl | rfl | rfl | rfl <;> simp only [Nat.reduceSub] <;> omega
    by_cases c1 : 2 ^ (201 - n) < 2 * (Y % 2 ^ (201 - n)) + t
    · rw [if_pos (b1.2 c1), if_pos c1]
    · rw [if_neg (fun h => c1 (b1.1 h)), if_neg c1]
      by_cases c2 : 2 ^ (201 - n) = 2 * (Y % 2 ^ (201 - n)) + t
      · rw [if_pos ((b2 c1).2 c2), if_pos c2]
      · rw [if_neg (fun h => c2 ((b2 c1).1 h)), if_neg c2]
        by_cases c3 : 0 < 2 * (Y % 2 ^ (201 - n)) + t
        · rw [if_pos (b3.2 c3), if_pos c3]
        · rw [if_neg (fun h => c3 (b3.1 h)), if_neg c3]
  unfold reY
  by_cases d : Y / 2 ^ 72 * 2 ^ (n - 1) % 2 ^ 64 = 0
  · rw [if_pos (by omega), left_val, key (b || decide (Y % 2 ^ 72 ≠ 0)) (by cases b <;> simp [d])]
    rfl
  · rw [if_neg (by omega), left_val, key true (by simp [d])]
    rfl
def yo (t i : Nat) : Nat := t * 2 ^ (70 - i) + (2 ^ 200 - 2 ^ (200 - i))
def yz (t i : Nat) : Nat := t * 2 ^ (70 - i) + 2 ^ (199 - i)
theorem yo_step {t i : Nat} (ht : t < 2 ^ 129) (hi : i < 70) : yo t i < 2 ^ 200 ∧ yo t i % 2 ^ 1 = 0 ∧ yo t i / 2 ^ 1 + 1 * 2 ^ (200 - 1) = yo t (i + 1) := by
  unfold yo
  have e1 : 2 ^ (70 - i) = 2 * 2 ^ (70 - (i + 1)) := by rw [← Nat.pow_succ']; exact congrArg (2 ^ ·) (by omega)
  have e2 : 2 ^ (200 - i) = 2 * 2 ^ (200 - (i + 1)) := by rw [← Nat.pow_succ']; exact congrArg (2 ^ ·) (by omega)
  have e3 : 2 ^ (200 - i) = 2 ^ 130 * 2 ^ (70 - i) := by rw [← Nat.pow_add]; exact congrArg (2 ^ ·) (by omega)
  have e4 : t * 2 ^ (70 - i) < 2 ^ 129 * 2 ^ (70 - i) := Nat.mul_lt_mul_of_pos_right ht (pow_pos _)
  have e5 : 2 ^ (200 - i) ≤ 2 ^ 200 := pow_le (by omega)
  have hA : t * 2 ^ (70 - i) = 2 * (t * 2 ^ (70 - (i + 1))) := by rw [e1]; exact Nat.mul_left_comm _ _ _
  have e7 : 2 ^ 130 * 2 ^ (70 - i) = 2 * (2 ^ 129 * 2 ^ (70 - i)) := by rw [← Nat.mul_assoc, ← Nat.pow_succ']
  generalize t * 2 ^ (70 - i) = v1 at *
  generalize t * 2 ^ (70 - (i + 1)) = v2 at *
  generalize 2 ^ (200 - (i + 1)) = u at *
  generalize 2 ^ (200 - i) = u2 at *
  generalize 2 ^ (70 - i) = u3 at *
  clear e1
  omega
theorem yz_step {t i : Nat} (ht : t < 2 ^ 129) (hi : i < 70) : yz t i < 2 ^ 200 ∧ yz t i % 2 ^ 1 = 0 ∧ yz t i / 2 ^ 1 + 0 * 2 ^ (200 - 1) = yz t (i + 1) := by
  unfold yz
  have e1 : 2 ^ (70 - i) = 2 * 2 ^ (70 - (i + 1)) := by rw [← Nat.pow_succ']; exact congrArg (2 ^ ·) (by omega)
  have e2 : 2 ^ (199 - i) = 2 * 2 ^ (199 - (i + 1)) := by rw [← Nat.pow_succ']; exact congrArg (2 ^ ·) (by omega)
  have e3 : 2 ^ (199 - i) = 2 ^ 129 * 2 ^ (70 - i) := by rw [← Nat.pow_add]; exact congrArg (2 ^ ·) (by omega)
  have e4 : t * 2 ^ (70 - i) < 2 ^ 129 * 2 ^ (70 - i) := Nat.mul_lt_mul_of_pos_right ht (pow_pos _)
  have e5 : 2 ^ (199 - i) ≤ 2 ^ 199 := pow_le (by omega)
  have hA : t * 2 ^ (70 - i) = 2 * (t * 2 ^ (70 - (i + 1))) := by rw [e1]; exact Nat.mul_left_comm _ _ _
  rw [Nat.zero_mul, Nat.add_zero, Nat.pow_one, hA, e2]
  have e7 : 2 ^ 129 * 2 ^ (70 - i) ≤ 2 ^ 199 := by rw [← e3]; exact e5
  rw [hA] at e4
  generalize t * 2 ^ (70 - (i + 1)) = v2 at *
  generalize 2 ^ (199 - (i + 1)) = u at *
  generalize 2 ^ (70 - i) = u3 at *
  have e8 : 2 * u ≤ 2 ^ 199 := by rw [← e2]; exact e5
  clear e1 e2 e3 e5 hA
  generalize 2 ^ 129 * u3 = q at *
  omega
theorem yo_lt {t i : Nat} (ht : t < 2 ^ 129) (hi : i ≤ 70) : yo t i < 2 ^ 200 := by
  unfold yo
  have e3 : 2 ^ (200 - i) = 2 ^ 130 * 2 ^ (70 - i) := by rw [← Nat.pow_add]; exact congrArg (2 ^ ·) (by omega)
  have e4 : t * 2 ^ (70 - i) < 2 ^ 129 * 2 ^ (70 - i) := Nat.mul_lt_mul_of_pos_right ht (pow_pos _)
  have e5 : 2 ^ (200 - i) ≤ 2 ^ 200 := pow_le (by omega)
  have e7 : 2 ^ 130 * 2 ^ (70 - i) = 2 * (2 ^ 129 * 2 ^ (70 - i)) := by rw [← Nat.mul_assoc, ← Nat.pow_succ']
  generalize t * 2 ^ (70 - i) = v at *
  omega
theorem yz_lt {t i : Nat} (ht : t < 2 ^ 129) (hi : i ≤ 70) : yz t i < 2 ^ 200 := by
  unfold yz
  have e3 : 2 ^ (199 - i) = 2 ^ 129 * 2 ^ (70 - i) := by rw [← Nat.pow_add]; exact congrArg (2 ^ ·) (by omega)
  have e4 : t * 2 ^ (70 - i) < 2 ^ 129 * 2 ^ (70 - i) := Nat.mul_lt_mul_of_pos_right ht (pow_pos _)
  have e5 : 2 ^ (199 - i) ≤ 2 ^ 199 := pow_le (by omega)
  generalize t * 2 ^ (70 - i) = v at *
  omega
theorem l0_Y {n t r : Nat} (b : Bool) (ht : t < 2 ^ 129) (hr : r ≤ 66) (k : Nat) : ∀ d i : Nat, i + d = r →
    round_Cut.l0 (k + d + 1) (n : Int) (reY b (yo t i)) (r : Int) (i : Int) (hiY (yo t i)) (loY (yo t i)) = round_Cut.j3 k (n : Int) (reY b (yo t r)) (hiY (yo t r)) (loY (yo t r)) := by
  intro d
  induction d with
  | zero =>
    intro i hi
    rw [show k + 0 + 1 = k + 1 from rfl, round_Cut.l0, if_neg (by omega), show i = r by omega]
  | succ d ih =>
    intro i hi
    rw [show k + (d + 1) + 1 = (k + d + 1) + 1 by omega, round_Cut.l0]
    obtain ⟨s1, s2, s3⟩ := yo_step (i := i) ht (by omega)
    have hu := under_Y (m := 1) (c := 1) b s1 (.inl rfl) (by decide) s2
    rw [s3] at hu
    have hw : wrap64 ((i : Int) + 1) = ((i + 1 : Nat) : Int) := by unfold wrap64; omega
    have hu' : round_under.f (hiY (yo t i)) (loY (yo t i)) 1 1 (reY b (yo t i)) = some (hiY (yo t (i + 1)), loY (yo t (i + 1)), reY b (yo t (i + 1))) := hu
    rw [if_pos (by omega), hu', hw]
    simp only [Option.bind_some]
    exact ih (i + 1) (by omega)
theorem l1_Y {n t r : Nat} (b : Bool) (ht : t < 2 ^ 129) (hr : r ≤ 66) (k : Nat) : ∀ d i : Nat, i + d = r →
    round_Cut.l1 (k + d + 1) (n : Int) (reY b (yz t i)) (r : Int) (i : Int) (hiY (yz t i)) (loY (yz t i)) = round_Cut.j3 k (n : Int) (reY b (yz t r)) (hiY (yz t r)) (loY (yz t r)) := by
  intro d
  induction d with
  | zero =>
    intro i hi
    rw [show k + 0 + 1 = k + 1 from rfl, round_Cut.l1, if_neg (by omega), show i = r by omega]
  | succ d ih =>
    intro i hi
    rw [show k + (d + 1) + 1 = (k + d + 1) + 1 by omega, round_Cut.l1]
    obtain ⟨s1, s2, s3⟩ := yz_step (i := i) ht (by omega)
    have hu := under_Y (m := 1) (c := 0) b s1 (.inl rfl) (by decide) s2
    rw [s3] at hu
    have hw : wrap64 ((i : Int) + 1) = ((i + 1 : Nat) : Int) := by unfold wrap64; omega
    have hu' : round_under.f (hiY (yz t i)) (loY (yz t i)) 0 1 (reY b (yz t i)) = some (hiY (yz t (i + 1)), loY (yz t (i + 1)), reY b (yz t (i + 1))) := hu
    rw [if_pos (by omega), hu', hw]
    simp only [Option.bind_some]
    exact ih (i + 1) (by omega)
end Go.Proofs.Ytnlbfomlfhigcaa.M
namespace Go.Proofs.Ytnlbfomlfhigcaa.M
open Go.RowKit Go.Proofs.YtnlbfomlfhigcaaW.PrintWords Go.Proofs.YtnlbfomlfhigcaaW.PrintLast Go.Proofs.YtnlbfomlfhigcaaW.PrintMore Go.Proofs.Ytnlbfomlfhigcaa.Q
theorem and3 (s : Int) : IntKind.u64.wrap (Go.bits .and .i64 s 3) = ((s % 4).toNat : Int) := by
  have h : (BitVec.ofInt 64 s &&& BitVec.ofInt 64 3).toNat = (s % 4).toNat := by
    rw [BitVec.toNat_and, BitVec.toNat_ofInt, BitVec.toNat_ofInt]
    have : ((3 : Int) % ((2 ^ 64 : Nat) : Int)).toNat = 2 ^ 2 - 1 := by decide
    rw [this, Nat.and_two_pow_sub_one_eq_mod, p64]
    omega
  have e : Go.bits .and .i64 s 3 = IntKind.i64.wrap ((BitVec.ofInt 64 s &&& BitVec.ofInt 64 3).toNat : Nat) := rfl
  rw [e, h, IntKind.wrap_i64, u64w]
  have : (s % 4).toNat ≤ 3 := by omega
  omega
theorem str_yo {s : Int} {F k : Nat} (h : s / 4 = (k : Int)) (hk : k ≤ 69) : str s F = yo (tl s F) (k + 1) := by
  rw [str_pos h]
  unfold yo
  have e1 : 2 ^ 130 * 2 ^ (69 - k) = 2 ^ (200 - (k + 1)) := by rw [← Nat.pow_add]; exact congrArg (2 ^ ·) (by omega)
  rw [e1, show 70 - (k + 1) = 69 - k by omega, Nat.add_comm]
theorem str_yz {s : Int} {F r : Nat} (h : s / 4 = -(r : Int)) (hr : 1 ≤ r) (hr2 : r ≤ 70) : str s F = yz (tl s F) r := by
  rw [str_neg h hr]
  unfold yz
  have e1 : 2 ^ 129 * 2 ^ (70 - r) = 2 ^ (199 - r) := by rw [← Nat.pow_add]; exact congrArg (2 ^ ·) (by omega)
  rw [e1, Nat.add_comm]
theorem str_lt200 {s : Int} {F : Nat} (h1 : -270 ≤ s) (h2 : s ≤ 270) (hF : F < 2 ^ 128) : str s F < 2 ^ 200 := by
  by_cases h0 : 0 ≤ s / 4
  · obtain ⟨k, hk⟩ := Int.eq_ofNat_of_zero_le h0
    rw [str_yo hk (by omega)]
    exact yo_lt (tl_lt hF) (by omega)
  · obtain ⟨r, hr⟩ : ∃ r : Nat, s / 4 = -(r : Int) := ⟨(-(s / 4)).toNat, by omega⟩
    rw [str_yz hr (by omega) (by omega)]
    exact yz_lt (tl_lt hF) (by omega)
theorem y_e1 (X e : Nat) : X * 2 ^ 73 / 2 ^ 2 + e * 2 ^ (200 - 2) = (e * 2 ^ 127 + X) * 2 ^ 71 := by omega
theorem y_half (t : Nat) : t * 2 ^ 71 / 2 ^ 1 = t * 2 ^ 70 := by omega
theorem y_e2 (t : Nat) : t * 2 ^ 71 / 2 ^ 1 + 0 * 2 ^ (200 - 1) = yo t 0 := by
  rw [y_half, Nat.zero_mul]
  unfold yo
  rw [Nat.sub_zero, Nat.sub_zero, Nat.sub_self]
theorem y_e3 (t : Nat) : t * 2 ^ 71 / 2 ^ 1 + 1 * 2 ^ (200 - 1) = yz t 0 := by
  rw [y_half, Nat.one_mul]
  rfl
theorem y_lt (t : Nat) (h : t < 2 ^ 129) : t * 2 ^ 71 < 2 ^ 200 ∧ t * 2 ^ 71 % 2 ^ 1 = 0 := by omega
theorem y_lt0 (X : Nat) (h : X < 2 ^ 127) : X * 2 ^ 73 < 2 ^ 200 ∧ X * 2 ^ 73 % 2 ^ 2 = 0 ∧ X * 2 ^ 73 % 2 ^ 72 = 0 := by omega
theorem under_end0 (b : Bool) {t : Nat} (h : t < 2 ^ 129) : round_under.f (hiY (t * 2 ^ 71)) (loY (t * 2 ^ 71)) 0 1 (reY b (t * 2 ^ 71)) = some (hiY (yo t 0), loY (yo t 0), reY b (yo t 0)) := by
  have hu := under_Y (Y := t * 2 ^ 71) (m := 1) (c := 0) b (y_lt t h).1 (.inl rfl) (by decide) (y_lt t h).2
  rw [y_e2] at hu
  exact hu
theorem under_end1 (b : Bool) {t : Nat} (h : t < 2 ^ 129) : round_under.f (hiY (t * 2 ^ 71)) (loY (t * 2 ^ 71)) 1 1 (reY b (t * 2 ^ 71)) = some (hiY (yz t 0), loY (yz t 0), reY b (yz t 0)) := by
  have hu := under_Y (Y := t * 2 ^ 71) (m := 1) (c := 1) b (y_lt t h).1 (.inl rfl) (by decide) (y_lt t h).2
  rw [y_e3] at hu
  exact hu
theorem under_exp (b : Bool) {X e : Nat} (h : X < 2 ^ 127) (he : e < 2 ^ 2) : round_under.f (hiY (X * 2 ^ 73)) (loY (X * 2 ^ 73)) (e : Int) 2 b = some (hiY ((e * 2 ^ 127 + X) * 2 ^ 71), loY ((e * 2 ^ 127 + X) * 2 ^ 71), reY b ((e * 2 ^ 127 + X) * 2 ^ 71)) := by
  have h0 := y_lt0 X h
  have hu := under_Y (Y := X * 2 ^ 73) (m := 2) (c := e) b h0.1 (.inr rfl) he h0.2.1
  rw [y_e1] at hu
  have hR : reY b (X * 2 ^ 73) = b := by
    unfold reY
    rw [decide_eq_false (by rw [h0.2.2]; simp), Bool.or_false]
  rw [hR] at hu
  exact hu
theorem shl_first {h l : Nat} (hh : 2 ^ 63 ≤ h) (hh2 : h < 2 ^ 64) (hl : l < 2 ^ 64) : ∃ bb, twin_Shl.f (h : Int) (l : Int) 1 = some (hiY ((h * 2 ^ 64 + l - 2 ^ 127) * 2 ^ 73), loY ((h * 2 ^ 64 + l - 2 ^ 127) * 2 ^ 73), bb, none) := by
  obtain ⟨bb, hS⟩ := Shl_tw (j := 1) hh2 hl (by omega)
  refine ⟨bb, ?_⟩
  unfold hiY loY
  rw [show ((h * 2 ^ 64 + l) * 2 ^ 1 % 2 ^ 128 / 2 ^ 64) = ((h * 2 ^ 64 + l - 2 ^ 127) * 2 ^ 73 / 2 ^ 72 / 2 ^ 64) by omega, show ((h * 2 ^ 64 + l) * 2 ^ 1 % 2 ^ 64) = ((h * 2 ^ 64 + l - 2 ^ 127) * 2 ^ 73 / 2 ^ 72 % 2 ^ 64) by omega] at hS
  exact hS
theorem lay_ones {n q : Nat} (hn : Wd n) (b : Bool) {s : Int} {F : Nat} (hF : F < 2 ^ 128) (hq : s / 4 = (q : Int)) (hq2 : q ≤ 65) (k : Nat) :
    round_Cut.l0 (k + 79) (n : Int) (reY b (yo (tl s F) 0)) (wrap64 ((q : Int) + 1)) 0 (hiY (yo (tl s F) 0)) (loY (yo (tl s F) 0)) = some (((str s F / 2 ^ (201 - n) : Nat) : Int), ((lft n (str s F) b : Nat) : Int), none) := by
  have ht := tl_lt (s := s) hF
  have hw : wrap64 ((q : Int) + 1) = ((q + 1 : Nat) : Int) := by unfold wrap64; omega
  have hl0 := l0_Y (n := n) (r := q + 1) b ht (by omega) (k + 77 - q) (q + 1) 0 (Nat.zero_add _)
  rw [show k + 77 - q + (q + 1) + 1 = k + 79 by omega] at hl0
  rw [hw]
  refine Eq.trans hl0 ?_
  rw [← str_yo hq (by omega), show k + 77 - q = (k + 75 - q) + 2 by omega]
  exact j3_Y hn b (str_lt200 (by omega) (by omega) hF) _
theorem lay_zeros {n r : Nat} (hn : Wd n) (b : Bool) {s : Int} {F : Nat} (hF : F < 2 ^ 128) (hr : s / 4 = -(r : Int)) (hr1 : 1 ≤ r) (hr2 : r ≤ 65) (k : Nat) :
    round_Cut.l1 (k + 79) (n : Int) (reY b (yz (tl s F) 0)) (wrap64 (-(-(r : Int)))) 0 (hiY (yz (tl s F) 0)) (loY (yz (tl s F) 0)) = some (((str s F / 2 ^ (201 - n) : Nat) : Int), ((lft n (str s F) b : Nat) : Int), none) := by
  have ht := tl_lt (s := s) hF
  have hw : wrap64 (-(-(r : Int))) = (r : Int) := by unfold wrap64; omega
  have hl1 := l1_Y (n := n) (r := r) b ht (by omega) (k + 78 - r) r 0 (Nat.zero_add _)
  rw [show k + 78 - r + r + 1 = k + 79 by omega] at hl1
  rw [hw]
  refine Eq.trans hl1 ?_
  rw [← str_yz hr (by omega) (by omega), show k + 78 - r = (k + 76 - r) + 2 by omega]
  exact j3_Y hn b (str_lt200 (by omega) (by omega) hF) _
end Go.Proofs.Ytnlbfomlfhigcaa.M
namespace Go.Proofs.Ytnlbfomlfhigcaa.M
open Go.RowKit Go.Proofs.YtnlbfomlfhigcaaW.PrintWords Go.Proofs.YtnlbfomlfhigcaaW.PrintLast Go.Proofs.YtnlbfomlfhigcaaW.PrintMore Go.Proofs.Ytnlbfomlfhigcaa.Q
theorem j0_str {n : Nat} (hn : Wd n) (neg b : Bool) {s : Int} {h l : Nat} (hh : 2 ^ 63 ≤ h) (hh2 : h < 2 ^ 64) (hl : l < 2 ^ 64) (h1 : 8 - 4 * (n : Int) ≤ s) (h2 : s < 4 * (n : Int) - 8) (k : Nat) :
    round_Cut.j0 (k + 80) (n : Int) 1 neg s (h : Int) (l : Int) b = some (((str s (h * 2 ^ 64 + l) / 2 ^ (201 - n) : Nat) : Int), ((lft n (str s (h * 2 ^ 64 + l)) b : Nat) : Int), none) := by
  have hb := hn.bd
  have hF : h * 2 ^ 64 + l < 2 ^ 128 := by omega
  have hX : h * 2 ^ 64 + l - 2 ^ 127 < 2 ^ 127 := by omega
  obtain ⟨bb, hS⟩ := shl_first hh hh2 hl
  have hu1 := under_exp (e := (s % 4).toNat) b hX (by omega)
  have ht := tl_lt (s := s) hF
  have e1 : (s % 4).toNat * 2 ^ 127 + (h * 2 ^ 64 + l - 2 ^ 127) = tl s (h * 2 ^ 64 + l) := rfl
  rw [e1] at hu1
  rw [show k + 80 = (k + 79) + 1 from rfl, round_Cut.j0, hS, and3]
  simp only [Option.bind_some]
  rw [hu1]
  simp only [Option.bind_some]
  clear hu1 hS e1 hX
  by_cases h0 : 0 ≤ s / 4
  · obtain ⟨q, hq⟩ := Int.eq_ofNat_of_zero_le h0
    rw [if_pos h0, under_end0 b ht, hq, Option.bind_some]
    exact lay_ones hn b hF hq (by omega) k
  · obtain ⟨r, hr⟩ : ∃ r : Nat, s / 4 = -(r : Int) := ⟨(-(s / 4)).toNat, by omega⟩
    rw [if_neg h0, under_end1 b ht, hr, Option.bind_some]
    exact lay_zeros hn b hF hr (by omega) (by omega) k
theorem tl_least {s : Int} (h : s % 4 = 0) : tl s (2 ^ 127) = 0 := by
  unfold tl
  rw [h, Nat.sub_self]
  rfl
theorem held_val (s : Int) : round_held.f s = some (if s < -1099511627776 then -1099511627776 else if 1099511627776 < s then 1099511627776 else s) := by
  unfold round_held.f mx mn
  congr 1
  split <;> split <;> (try split) <;> (try split) <;> omega
theorem sound_real (k : Nat) (neg b : Bool) {s : Int} {h l : Nat} (hh : 2 ^ 63 ≤ h) (hh2 : h < 2 ^ 64) (h1 : -1099511627776 ≤ s) (h2 : s ≤ 1099511627776) : round_sound.f (k + 1) 1 neg s (h : Int) (l : Int) b = some true := by
  unfold round_sound.f
  rw [if_neg (by decide), round_sound.j0, if_neg (by decide), if_pos rfl, if_pos (by rw [p63] at hh; rw [p64] at hh2; omega), held_val, if_neg (by omega), if_neg (by omega)]
  simp
theorem sound_zero (k : Nat) : round_sound.f (k + 1) 0 false 0 0 0 false = some true := by
  unfold round_sound.f
  rw [if_pos rfl, round_sound.j0, if_pos (by decide)]
  rfl
theorem sound_nar (k : Nat) : round_sound.f (k + 1) 2 false 0 0 0 false = some true := by
  unfold round_sound.f
  rw [if_neg (by decide), round_sound.j0, if_pos (by decide)]
  rfl
theorem rnd_lft {n Y : Nat} (hn : Wd n) (b : Bool) : rnd (2 ^ (202 - n)) (2 * Y + b.toNat) = if lft n Y b = 3 ∨ (lft n Y b = 2 ∧ Y / 2 ^ (201 - n) % 2 = 1) then Y / 2 ^ (201 - n) + 1 else Y / 2 ^ (201 - n) := by
  have hbb := toNat_le b
  rw [(unit_eq hn).2]
  have hp := pow_pos (201 - n)
  have hd : (2 * Y + b.toNat) / (2 * 2 ^ (201 - n)) = Y / 2 ^ (201 - n) := by
    rw [← Nat.div_div_eq_div_mul]
    congr 1
    omega
  have hm : (2 * Y + b.toNat) % (2 * 2 ^ (201 - n)) = 2 * (Y % 2 ^ (201 - n)) + b.toNat := by
    have a1 := Nat.div_add_mod (2 * Y + b.toNat) (2 * 2 ^ (201 - n))
    have a2 := Nat.div_add_mod Y (2 ^ (201 - n))
    rw [hd, Nat.mul_assoc] at a1
    omega
  unfold rnd lft
  rw [hd, hm]
  generalize 2 * (Y % 2 ^ (201 - n)) + b.toNat = z
  generalize Y / 2 ^ (201 - n) = q
  generalize 2 ^ (201 - n) = d
  by_cases c1 : d < z
  · rw [if_pos (.inl (by omega)), if_pos c1, if_pos (.inl rfl)]
  · rw [if_neg c1]
    by_cases c2 : d = z
    · rw [if_pos c2]
      by_cases c3 : q % 2 = 1
      · rw [if_pos (.inr ⟨by omega, c3⟩), if_pos (.inr ⟨rfl, c3⟩)]
      · rw [if_neg (by omega), if_neg (by omega)]
    · rw [if_neg c2, if_neg (by omega)]
      split <;> rw [if_neg (by omega)]
def sg (n : Nat) (neg : Bool) (p : Nat) : Nat := if neg then 2 ^ n - p else p
theorem fold_sg {n : Nat} (hn : Wd n) (neg : Bool) {p : Nat} (h1 : 1 ≤ p) (h2 : p < 2 ^ (n - 1)) :
    (if neg = true then (shape_Fold.f (n : Int) (IntKind.u64.wrap (-(p : Int)))).bind (fun bt => some (bt.1, bt.2)) else (shape_Fold.f (n : Int) (p : Int)).bind (fun bt => some (bt.1, bt.2))) = some (((sg n neg p : Nat) : Int), none) := by
  have hb := hn.bd
  have e := two_half hn
  have hn64 : 2 ^ n ≤ 2 ^ 64 := pow_le hb.2
  cases neg with
  | true =>
    rw [if_pos rfl, show IntKind.u64.wrap (-(p : Int)) = ((2 ^ 64 - p : Nat) : Int) by rw [u64w, p64]; rw [p64] at hn64; omega, fold_yes hn (by omega)]
    have : (2 ^ 64 - p) % 2 ^ n = 2 ^ n - p := by
      rw [pow_split (show n ≤ 64 from hb.2)]
      have hq := pow_pos (64 - n)
      generalize 2 ^ (64 - n) = q at *
      obtain ⟨q, rfl⟩ : ∃ z, q = z + 1 := ⟨q - 1, by omega⟩
      rw [Nat.mul_succ, show 2 ^ n * q + 2 ^ n - p = (2 ^ n - p) + 2 ^ n * q by omega, Nat.add_mul_mod_self_left, Nat.mod_eq_of_lt (by omega)]
    rw [this]
    rfl
  | false =>
    rw [if_neg (by decide), fold_yes hn (by omega), Nat.mod_eq_of_lt (by omega)]
    rfl
theorem round_real {n : Nat} (hn : Wd n) (neg b : Bool) {s : Int} {h l : Nat} (hh : 2 ^ 63 ≤ h) (hh2 : h < 2 ^ 64) (hl : l < 2 ^ 64) (h1 : -1099511627776 ≤ s) (h2 : s ≤ 1099511627776) (k : Nat) :
    round_Round.f (k + 80) (n : Int) 1 neg s (h : Int) (l : Int) b = some (((sg n neg (rpos n s (h * 2 ^ 64 + l) b) : Nat) : Int), none) := by
  have hb := hn.bd
  have hF : 2 ^ 127 ≤ h * 2 ^ 64 + l ∧ h * 2 ^ 64 + l < 2 ^ 128 := by omega
  have hR := rpos_bd hn s b hF.2
  have hsn : wrap64 (-(4 * (n : Int) - 8)) = 8 - 4 * (n : Int) := by unfold wrap64; omega
  have hq2 : 2 ≤ 2 ^ (n - 1) := by have : 2 ^ 1 ≤ 2 ^ (n - 1) := pow_le (by omega); omega

  have hcut : ∃ P L : Nat, round_Cut.f (k + 80) (n : Int) 1 neg s (h : Int) (l : Int) b = some ((P : Int), (L : Int), none) ∧ P < 2 ^ (n - 1) ∧ rpos n s (h * 2 ^ 64 + l) b = if L = 3 ∨ (L = 2 ∧ P % 2 = 1) then P + 1 else P := by
    unfold round_Cut.f
    rw [of_yes hn]
    simp only [Option.bind_some, Option.isNone_none, if_true]
    rw [sound_real (k + 79) neg b hh hh2 h1 h2]
    simp only [Option.bind_some, if_true]
    rw [if_neg (by decide), if_neg (by decide), hsn]
    by_cases c1 : 4 * (n : Int) - 8 ≤ s
    · rw [if_pos c1]
      refine ⟨2 ^ (n - 1) - 1, 0, rfl, by omega, ?_⟩
      unfold rpos
      rw [if_pos c1, if_neg (by omega)]
    · rw [if_neg (by omega)]
      by_cases c2 : s < 8 - 4 * (n : Int)
      · rw [if_pos c2]
        refine ⟨1, 0, rfl, by omega, ?_⟩
        unfold rpos
        rw [if_neg c1, if_pos c2, if_neg (by omega)]
      · rw [if_neg c2]
        have hj := j0_str hn neg b hh hh2 hl (show 8 - 4 * (n : Int) ≤ s by omega) (by omega) k
        have hin := rnd_in hn b (s := s) (F := h * 2 ^ 64 + l) (by omega) (by omega) hF.2
        have hrl := rnd_lft (Y := str s (h * 2 ^ 64 + l)) hn b
        have hbd := rnd_bd (2 ^ (202 - n)) (2 * str s (h * 2 ^ 64 + l) + b.toNat)
        have hd : (2 * str s (h * 2 ^ 64 + l) + b.toNat) / 2 ^ (202 - n) = str s (h * 2 ^ 64 + l) / 2 ^ (201 - n) := by
          rw [(unit_eq hn).2, ← Nat.div_div_eq_div_mul]
          have := toNat_le b
          congr 1
          omega
        have hfin : ∃ P L : Nat, round_Cut.j0 (k + 80) (n : Int) 1 neg s (h : Int) (l : Int) b = some ((P : Int), (L : Int), none) ∧ P < 2 ^ (n - 1) ∧ rpos n s (h * 2 ^ 64 + l) b = if L = 3 ∨ (L = 2 ∧ P % 2 = 1) then P + 1 else P := by
          refine ⟨_, _, hj, by omega, ?_⟩
          unfold rpos
          rw [if_neg c1, if_neg c2, hrl]
        by_cases c3 : s = 8 - 4 * (n : Int)
        · rw [if_pos c3]
          by_cases c4 : (h : Int) = 9223372036854775808
          · rw [if_pos c4]
            by_cases c5 : (l : Int) = 0
            · rw [if_pos c5]
              cases b with
              | true => rw [if_pos rfl]; exact hfin
              | false =>
                rw [if_neg (by decide)]
                refine ⟨1, 0, rfl, by omega, ?_⟩
                rw [if_neg (by omega)]
                unfold rpos
                rw [if_neg c1, if_neg c2]
                have hF2 : h * 2 ^ 64 + l = 2 ^ 127 := by omega
                have hr : s / 4 = -((n - 2 : Nat) : Int) := by omega
                rw [hF2, str_neg hr (by omega)]
                have ht : tl s (2 ^ 127) = 0 := tl_least (by omega)
                rw [ht, Nat.zero_mul, Nat.add_zero]
                have e1 : 2 * (2 ^ 129 * 2 ^ (70 - (n - 2))) + false.toNat = 1 * 2 ^ (202 - n) := by
                  rw [← Nat.pow_add, Nat.one_mul, show 129 + (70 - (n - 2)) = 201 - n by omega, (unit_eq hn).2]
                  rfl
                rw [e1]
                exact rnd_mul (pow_pos _)
            · rw [if_neg c5]; exact hfin
          · rw [if_neg c4]; exact hfin
        · rw [if_neg c3]; exact hfin
  obtain ⟨P, L, hc, hP, hrp⟩ := hcut
  unfold round_Round.f
  rw [hc]
  simp only [Option.bind_some, Option.isNone_none, if_true]
  have hn64 : 2 ^ (n - 1) ≤ 2 ^ 63 := pow_le (by omega)
  have hand : Go.bits .and .u64 (P : Int) 1 = ((P % 2 : Nat) : Int) := and_mask P 1 (by omega) (by omega)
  have hup : IntKind.u64.wrap ((P : Int) + 1) = ((P + 1 : Nat) : Int) := by rw [u64w]; rw [p63] at hn64; omega
  rw [hand, hup]
  have key : ∀ p : Nat, rpos n s (h * 2 ^ 64 + l) b = p → (if neg = true then (shape_Fold.f (n : Int) (IntKind.u64.wrap (-(p : Int)))).bind (fun bt => some (bt.1, bt.2)) else (shape_Fold.f (n : Int) (p : Int)).bind (fun bt => some (bt.1, bt.2))) = some (((sg n neg (rpos n s (h * 2 ^ 64 + l) b) : Nat) : Int), none) := by
    rintro p rfl
    exact fold_sg hn neg hR.1 (by omega)
  by_cases c2 : (L : Int) = 2
  · rw [if_pos c2]
    by_cases c3 : ((P % 2 : Nat) : Int) = 0
    · rw [if_pos c3]
      exact key P (by rw [hrp, if_neg (by omega)])
    · rw [if_neg c3]
      exact key (P + 1) (by rw [hrp, if_pos (by omega)])
  · rw [if_neg c2]
    by_cases c3 : (L : Int) = 3
    · rw [if_pos c3]
      exact key (P + 1) (by rw [hrp, if_pos (by omega)])
    · rw [if_neg c3]
      exact key P (by rw [hrp, if_neg (by omega)])
theorem round_zero {n : Nat} (hn : Wd n) (k : Nat) : round_Round.f (k + 1) (n : Int) 0 false 0 0 0 false = some (0, none) := by
  unfold round_Round.f round_Cut.f
  rw [of_yes hn]
  simp only [Option.bind_some, Option.isNone_none, if_true]
  rw [sound_zero k]
  simp only [Option.bind_some, if_true, Option.isNone_none]
  rw [if_neg (by decide), if_neg (by decide), if_neg (by decide)]
  have := fold_yes hn (x := 0) (by decide)
  rw [Nat.zero_mod] at this
  have h2 : shape_Fold.f (n : Int) 0 = some (0, none) := this
  rw [h2]
  rfl
theorem round_nar {n : Nat} (hn : Wd n) (k : Nat) : round_Round.f (k + 1) (n : Int) 2 false 0 0 0 false = some (((2 ^ (n - 1) : Nat) : Int), none) := by
  have hb := hn.bd
  have e := two_half hn
  have hp := pow_pos (n - 1)
  unfold round_Round.f round_Cut.f
  rw [of_yes hn]
  simp only [Option.bind_some, Option.isNone_none, if_true]
  rw [sound_nar k]
  simp only [Option.bind_some, if_true]
  rw [if_neg (by decide)]
  simp only [Option.bind_some, Option.isNone_none, if_true]
  rw [if_neg (by decide), if_neg (by decide), if_neg (by decide)]
  have hn64 : 2 ^ n ≤ 2 ^ 64 := pow_le hb.2
  rw [fold_yes hn (x := 2 ^ (n - 1)) (by omega), Nat.mod_eq_of_lt (by omega)]
  rfl
end Go.Proofs.Ytnlbfomlfhigcaa.M
namespace Go.Proofs.Ytnlbfomlfhigcaa.M
open Go.RowKit Go.Proofs.YtnlbfomlfhigcaaW.PrintWords Go.Proofs.YtnlbfomlfhigcaaW.PrintLast Go.Proofs.YtnlbfomlfhigcaaW.PrintMore Go.Proofs.Ytnlbfomlfhigcaa.Q
theorem some_l0 {b : ByteArray} {len v : Nat} (h : IsBits b len v) (hlen : len ≤ 250) (k : Nat) : ∀ d i : Nat, i + d = len →
    vernierref07_some.l0 (k + d + 1) b (i : Int) = some (decide (v % 2 ^ d ≠ 0)) := by
  obtain ⟨h1, h2, h3⟩ := h
  intro d
  induction d with
  | zero =>
    intro i hi
    rw [vernierref07_some.l0, if_neg (by omega), Nat.pow_zero, Nat.mod_one]
    rfl
  | succ d ih =>
    intro i hi
    have hb := h3 i (by omega)
    unfold bitc at hb
    rw [show len - 1 - i = d by omega] at hb
    have hm : v % 2 ^ (d + 1) = v % 2 ^ d + 2 ^ d * (v / 2 ^ d % 2) := by rw [Nat.pow_succ, Nat.mod_mul]
    have hp := pow_pos d
    rw [show k + (d + 1) + 1 = (k + d + 1) + 1 by omega, vernierref07_some.l0, if_pos (by omega), if_pos (by omega), hb, hm]
    have hw : wrap64 ((i : Int) + 1) = ((i + 1 : Nat) : Int) := by unfold wrap64; omega
    obtain c | c : v / 2 ^ d % 2 = 0 ∨ v / 2 ^ d % 2 = 1 := by omega
    · rw [c, if_neg (by decide), hw, ih (i + 1) (by omega), Nat.mul_zero, Nat.add_zero]
    · rw [c, if_pos (by decide), Nat.mul_one, decide_eq_true (by omega)]
theorem some_bits {b : ByteArray} {len v : Nat} (h : IsBits b len v) (hlen : len ≤ 250) (k : Nat) : vernierref07_some.f (k + 260) b = some (decide (v ≠ 0)) := by
  have := some_l0 h hlen (k + 259 - len) len 0 (by omega)
  rw [show k + 259 - len + len + 1 = k + 260 by omega, Nat.mod_eq_of_lt h.2.1] at this
  exact this
def lfv (len v : Nat) (b : Bool) : Nat :=
  if 2 ^ len < 2 * v + b.toNat then 3 else if 2 ^ len = 2 * v + b.toNat then 2 else if 0 < 2 * v + b.toNat then 1 else 0
theorem rleft {b : ByteArray} {len v : Nat} (h : IsBits b len v) (h1 : 1 ≤ len) (hlen : len ≤ 250) (rest : Bool) (k : Nat) : vernierref07_left.f (k + 262) b rest = some ((lfv len v rest : Nat) : Int) := by
  have hs := h.1
  have hne : ¬ b.toList = ([] : List UInt8) := by
    rw [ByteArray.toList_eq]
    intro c
    have : b.data.toList.length = 0 := by rw [c]; rfl
    have e : b.size = b.data.toList.length := Array.length_toList.symm
    omega
  have hne' := hne
  have hx := h.extract (i := 1) (j := len) h1 (Nat.le_refl _)
  rw [Nat.sub_self, Nat.pow_zero, Nat.div_one] at hx
  have hf := first_bit h h1
  have e2 : 2 ^ len = 2 * 2 ^ (len - 1) := by rw [← Nat.pow_succ']; exact congrArg (2 ^ ·) (by omega)
  have hv := h.2.1
  have hp := pow_pos (len - 1)
  have hj : ∀ x5 x11 : Bool, vernierref07_left.j1 (k + 261) b rest x5 x11 = some (((if x11 = true then 3 else if 2 ^ (len - 1) ≤ v then 2 else if (x5 || rest) = true then 1 else 0 : Nat) : Nat) : Int) := by
    intro x5 x11
    rw [show k + 261 = (k + 260) + 1 from rfl, vernierref07_left.j1]
    cases x11
    · rw [if_neg (by decide), if_pos (by omega), hf]
      by_cases c : 2 ^ (len - 1) ≤ v
      · rw [if_pos c, if_pos rfl, if_neg (by decide), if_pos c]
        rfl
      · rw [if_neg c, if_neg (by decide : ¬ (48 : Int) = 49), if_neg (by decide : ¬ false = true), if_neg c]
        cases x5 <;> cases rest <;> rfl
    · rfl
  clear hne
  unfold vernierref07_left.f
  rw [if_neg hne', show k + 262 = (k + 261) + 1 from rfl, vernierref07_left.j0, if_pos (by omega), hs, show k + 261 = (k + 1) + 260 from rfl, some_bits hx (by omega), Option.bind_some, if_pos (by omega), hf, show k + 1 + 260 = k + 261 by omega, hj, hj, hj]
  rw [e2] at hv
  unfold lfv
  rw [e2]
  clear hj hx hf e2
  generalize 2 ^ (len - 1) = g at *
  by_cases c : g ≤ v
  · have hq : v % g = v - g := by rw [Nat.mod_eq_sub_mod c, Nat.mod_eq_of_lt (by omega)]
    rw [if_pos c, if_pos rfl, hq]
    by_cases c2 : v - g = 0
    · rw [decide_eq_false (fun h => h c2), if_neg (by decide), if_pos c]
      have c3 : v = g := by omega
      subst c3
      cases rest
      · rw [if_neg (by decide), if_neg (show ¬ 2 * v < 2 * v + false.toNat by simp), if_pos (show 2 * v = 2 * v + false.toNat by simp)]
      · rw [if_pos rfl, if_pos (show 2 * v < 2 * v + true.toNat by simp)]
    · rw [decide_eq_true (show v - g ≠ 0 from c2), if_pos rfl, if_pos rfl, if_pos (by omega)]
  · have hq : v % g = v := Nat.mod_eq_of_lt (by omega)
    have hb := toNat_le rest
    have l1 : ¬ 2 * g < 2 * v + rest.toNat := by omega
    have l2 : ¬ 2 * g = 2 * v + rest.toNat := by omega
    rw [if_neg c, if_neg (by decide), if_neg (by decide), if_neg c, hq, if_neg l1, if_neg l2]
    by_cases c2 : v = 0
    · subst c2
      cases rest <;> rfl
    · have l3 : 0 < 2 * v + rest.toNat := by omega
      rw [decide_eq_true (show v ≠ 0 from c2), if_pos l3]
      rfl
theorem regime_val {s : Int} (h1 : -1000000 ≤ s) (h2 : s ≤ 1000000) : vernierref06_regime.f s = some (s / 4) := by
  have ht : Int.tdiv s 4 = if 4 * (s / 4) = s ∨ 0 ≤ s then s / 4 else s / 4 + 1 := by
    by_cases c : 0 ≤ s
    · rw [if_pos (Or.inr c), Int.tdiv_eq_ediv_of_nonneg c]
    · obtain ⟨t, rfl⟩ : ∃ t : Int, s = -t := ⟨-s, by omega⟩
      rw [Int.neg_tdiv, Int.tdiv_eq_ediv_of_nonneg (by omega)]
      by_cases c2 : 4 * (-t / 4) = -t
      · rw [if_pos (Or.inl c2)]
        omega
      · rw [if_neg (by omega)]
        omega
  unfold vernierref06_regime.f
  rw [ht]
  by_cases c : 4 * (s / 4) = s ∨ 0 ≤ s
  · rw [if_pos c, wrap64_id (n := s / 4) (by omega) (by omega), wrap64_id (by omega) (by omega), if_neg (by omega)]
  · rw [if_neg c, wrap64_id (n := s / 4 + 1) (by omega) (by omega), wrap64_id (n := 4 * (s / 4 + 1)) (by omega) (by omega), if_pos (by omega), wrap64_id (by omega) (by omega)]
    congr 1
    omega
theorem isb_snoc {l : List Int} {v c : Nat} (h : IsBits (strOfNums l) l.length v) (hc : c ≤ 1) : IsBits (strOfNums (l ++ [((48 + c : Nat) : Int)])) (l ++ [((48 + c : Nat) : Int)]).length (2 * v + c) := by
  obtain ⟨h1, h2, h3⟩ := h
  have hl : (l ++ [((48 + c : Nat) : Int)]).length = l.length + 1 := by simp
  rw [hl]
  refine ⟨by rw [strOfNums_size, hl], by rw [Nat.pow_succ]; omega, fun i hi => ?_⟩
  rw [bt_strOfNums _ i (by rw [hl]; exact hi)]
  congr 1
  unfold bitc
  by_cases c1 : i < l.length
  · have := h3 i c1
    rw [bt_strOfNums _ i c1] at this
    unfold bitc at this
    have g : (l ++ [((48 + c : Nat) : Int)]).getD i 0 = l.getD i 0 := by simp [List.getD, List.getElem?_append_left c1]
    rw [g, show l.length + 1 - 1 - i = (l.length - 1 - i) + 1 by omega, Nat.pow_succ', ← Nat.div_div_eq_div_mul, show (2 * v + c) / 2 = v by omega]
    omega
  · obtain rfl : i = l.length := by omega
    have g : (l ++ [((48 + c : Nat) : Int)]).getD l.length 0 = ((48 + c : Nat) : Int) := by simp [List.getD]
    rw [g, show l.length + 1 - 1 - l.length = 0 by omega, Nat.pow_zero, Nat.div_one]
    omega
end Go.Proofs.Ytnlbfomlfhigcaa.M
namespace Go.Proofs.Ytnlbfomlfhigcaa.M
open Go.RowKit Go.Proofs.YtnlbfomlfhigcaaW.PrintWords Go.Proofs.YtnlbfomlfhigcaaW.PrintLast Go.Proofs.YtnlbfomlfhigcaaW.PrintMore Go.Proofs.Ytnlbfomlfhigcaa.Q
theorem head_exit {l : List Int} {v : Nat} (h : IsBits (strOfNums l) l.length v) (hl : l.length ≤ 100) {s : Int} (b1 : -1000000 ≤ s) (b2 : s ≤ 1000000) (x6 : Int) (hx : ¬ x6 > s / 4) (k : Nat) :
    ∃ b, vernierref06_Head.l1 (k + 67) s (s / 4) l x6 = some b ∧ IsBits b (l.length + 3) ((2 * v + (if 0 ≤ s / 4 then 0 else 1)) * 4 + (s % 4).toNat) := by
  obtain ⟨t, hT, hTB⟩ := text_bits (s % 4).toNat (n := 2) (by omega) k
  have hT' : vernierref01_Text.f (k + 66) (((s % 4).toNat : Nat) : Int) 2 = some t := hT
  have hw : IntKind.u64.wrap (wrap64 (s - wrap64 (4 * (s / 4)))) = (((s % 4).toNat : Nat) : Int) := by
    rw [wrap64_id (n := 4 * (s / 4)) (by omega) (by omega), wrap64_id (by omega) (by omega), u64w]
    omega
  have hm : (s % 4).toNat % 2 ^ 2 = (s % 4).toNat := Nat.mod_eq_of_lt (by omega)
  rw [hm] at hTB
  have hts := hTB.1
  have hlen : (l.length : Int) < 140737488355328 := by omega
  have hlen' : l.length < 140737488355328 := by omega
  rw [show k + 67 = (k + 66) + 1 from rfl, vernierref06_Head.l1, if_neg hx]
  by_cases c : s / 4 ≥ 0
  · have h2 := isb_snoc h (c := 0) (by omega)
    have hs2 := h2.1
    have hl2 : (l ++ [((48 + 0 : Nat) : Int)]).length = l.length + 1 := by simp
    rw [if_pos c, if_pos hlen', Option.bind_some, hw, hT', Option.bind_some]
    have hfit : (strOfNums (l ++ [48])).size + t.size ≤ 9223372036854775807 := by
      have e : (strOfNums (l ++ [48])).size = (l ++ [((48 + 0 : Nat) : Int)]).length := hs2
      rw [e, hl2, hts]
      omega
    rw [if_pos hfit]
    refine ⟨_, rfl, ?_⟩
    have h3 := h2.append hTB
    rw [hl2] at h3
    rw [if_pos c]
    exact h3
  · have h2 := isb_snoc h (c := 1) (by omega)
    have hs2 := h2.1
    have hl2 : (l ++ [((48 + 1 : Nat) : Int)]).length = l.length + 1 := by simp
    rw [if_neg c, if_pos hlen', Option.bind_some, hw, hT', Option.bind_some]
    have hfit : (strOfNums (l ++ [49])).size + t.size ≤ 9223372036854775807 := by
      have e : (strOfNums (l ++ [49])).size = (l ++ [((48 + 1 : Nat) : Int)]).length := hs2
      rw [e, hl2, hts]
      omega
    rw [if_pos hfit]
    refine ⟨_, rfl, ?_⟩
    have h3 := h2.append hTB
    rw [hl2] at h3
    rw [if_neg c]
    exact h3
theorem head_zeros {s : Int} {r : Nat} (b1 : -1000000 ≤ s) (b2 : s ≤ 1000000) (hr : s / 4 = -(r : Int)) (hr1 : 1 ≤ r) (k : Nat) : ∀ (d i : Nat) (l : List Int) (v : Nat), i + d = r → IsBits (strOfNums l) l.length v → l.length + d ≤ 100 →
    ∃ b, vernierref06_Head.l1 (k + d + 67) s (s / 4) l (-(i : Int)) = some b ∧ IsBits b (l.length + d + 3) ((2 * (v * 2 ^ d) + 1) * 4 + (s % 4).toNat) := by
  intro d
  induction d with
  | zero =>
    intro i l v hi h hl
    obtain ⟨b, e, hb⟩ := head_exit h (by omega) b1 b2 (-(i : Int)) (by omega) k
    rw [if_neg (by omega)] at hb
    refine ⟨b, e, ?_⟩
    rw [Nat.pow_zero, Nat.mul_one]
    exact hb
  | succ d ih =>
    intro i l v hi h hl
    have h2 := isb_snoc h (c := 0) (by omega)
    have hl2 : (l ++ [((48 + 0 : Nat) : Int)]).length = l.length + 1 := by simp
    have hw : wrap64 (-(i : Int) - 1) = -((i + 1 : Nat) : Int) := by unfold wrap64; omega
    obtain ⟨b, e, hb⟩ := ih (i + 1) _ _ (by omega) h2 (by omega)
    have hlen' : l.length < 140737488355328 := by omega
    rw [show k + (d + 1) + 67 = (k + d + 67) + 1 by omega, vernierref06_Head.l1, if_pos (by omega), if_pos hlen', hw]
    refine ⟨b, e, ?_⟩
    have e2 : (2 * v + 0) * 2 ^ d = v * 2 ^ (d + 1) := by rw [Nat.add_zero, Nat.mul_comm 2 v, Nat.mul_assoc, ← Nat.pow_succ']
    rw [hl2, show l.length + 1 + d = l.length + (d + 1) by omega, e2] at hb
    exact hb
theorem head_ones {s : Int} {r : Nat} (b1 : -1000000 ≤ s) (b2 : s ≤ 1000000) (hr : s / 4 = (r : Int)) (k : Nat) : ∀ (d i : Nat) (l : List Int) (v : Nat), i + d = r + 1 → IsBits (strOfNums l) l.length v → l.length + d ≤ 100 →
    ∃ b, vernierref06_Head.l0 (k + d + 68) s (s / 4) l (i : Int) = some b ∧ IsBits b (l.length + d + 3) ((2 * (v * 2 ^ d + (2 ^ d - 1))) * 4 + (s % 4).toNat) := by
  intro d
  induction d with
  | zero =>
    intro i l v hi h hl
    obtain ⟨b, e, hb⟩ := head_exit h (by omega) b1 b2 0 (by omega) k
    rw [if_pos (by omega)] at hb
    rw [show k + 0 + 68 = (k + 67) + 1 from rfl, vernierref06_Head.l0, if_neg (by omega)]
    refine ⟨b, e, ?_⟩
    rw [Nat.pow_zero, Nat.mul_one, Nat.sub_self]
    exact hb
  | succ d ih =>
    intro i l v hi h hl
    have h2 := isb_snoc h (c := 1) (by omega)
    have hl2 : (l ++ [((48 + 1 : Nat) : Int)]).length = l.length + 1 := by simp
    have hw : wrap64 ((i : Int) + 1) = ((i + 1 : Nat) : Int) := by unfold wrap64; omega
    obtain ⟨b, e, hb⟩ := ih (i + 1) _ _ (by omega) h2 (by omega)
    have hlen' : l.length < 140737488355328 := by omega
    rw [show k + (d + 1) + 68 = (k + d + 68) + 1 by omega, vernierref06_Head.l0, if_pos (by omega), if_pos hlen', hw]
    refine ⟨b, e, ?_⟩
    have hp := pow_pos d
    have e2 : (2 * v + 1) * 2 ^ d + (2 ^ d - 1) = v * 2 ^ (d + 1) + (2 ^ (d + 1) - 1) := by
      rw [Nat.pow_succ', Nat.add_mul, Nat.one_mul, Nat.mul_comm 2 v, Nat.mul_assoc]
      generalize v * (2 * 2 ^ d) = z
      omega
    rw [hl2, show l.length + 1 + d = l.length + (d + 1) by omega, e2] at hb
    exact hb
theorem isb_empty : IsBits (strOfNums []) ([] : List Int).length 0 := ⟨rfl, by decide, fun i hi => absurd hi (Nat.not_lt_zero _)⟩
theorem rhead {s : Int} (h1 : -270 ≤ s) (h2 : s ≤ 270) (k : Nat) : ∃ b : ByteArray, ∃ L v : Nat, vernierref06_Head.f (k + 150) s = some b ∧ IsBits b L v ∧ 4 ≤ L ∧ L ≤ 73 ∧ ∀ F, str s F = (v * 2 ^ 127 + (F - 2 ^ 127)) * 2 ^ (73 - L) := by
  unfold vernierref06_Head.f
  rw [regime_val (by omega) (by omega), Option.bind_some]
  by_cases c : 0 ≤ s / 4
  · obtain ⟨r, hr⟩ : ∃ r : Nat, s / 4 = (r : Int) := ⟨(s / 4).toNat, by omega⟩
    have hr67 : r ≤ 67 := by omega
    obtain ⟨b, e, hb⟩ := head_ones (by omega) (by omega) hr (k + 150 - 68 - (r + 1)) (r + 1) 0 [] 0 (by omega) isb_empty (by simp only [List.length_nil]; omega)
    rw [show k + 150 - 68 - (r + 1) + (r + 1) + 68 = k + 150 by omega] at e
    refine ⟨b, _, _, e, hb, by simp only [List.length_nil]; omega, by simp only [List.length_nil]; omega, fun F => ?_⟩
    rw [str_pos hr]
    have hp := pow_pos (r + 1)
    have e1 : 73 - (([] : List Int).length + (r + 1) + 3) = 69 - r := by simp only [List.length_nil]; omega
    rw [e1, Nat.zero_mul, Nat.zero_add]
    unfold tl
    have e3 : 2 ^ 200 = 2 * 2 ^ (r + 1) * (4 * 2 ^ 127) * 2 ^ (69 - r) := by
      rw [show (4 * 2 ^ 127 : Nat) = 2 ^ 129 by decide, ← Nat.pow_succ', ← Nat.pow_add, ← Nat.pow_add]
      exact congrArg (2 ^ ·) (by omega)
    have e4 : (2 : Nat) ^ 130 = 2 * (4 * 2 ^ 127) := by decide
    rw [e3, e4]
    obtain ⟨a, ha⟩ : ∃ a, 2 ^ (r + 1) = a + 1 := ⟨2 ^ (r + 1) - 1, by omega⟩
    rw [ha, Nat.add_sub_cancel]
    generalize (2 : Nat) ^ 127 = P
    generalize 2 ^ (69 - r) = X
    generalize (s % 4).toNat = E
    generalize F - P = G
    have f1 : 2 * (a + 1) * (4 * P) * X - 2 * (4 * P) * X = 2 * a * (4 * P) * X := by
      rw [Nat.mul_add, Nat.mul_one, Nat.add_mul, Nat.add_mul, Nat.add_sub_cancel]
    rw [f1, ← Nat.add_mul]
    congr 1
    rw [Nat.add_mul, Nat.mul_assoc (2 * a) 4 P, Nat.add_assoc]
  · obtain ⟨r, hr⟩ : ∃ r : Nat, s / 4 = -(r : Int) := ⟨(-(s / 4)).toNat, by omega⟩
    have hr68 : r ≤ 68 := by omega
    obtain ⟨b, e, hb⟩ := head_zeros (by omega) (by omega) hr (by omega) (k + 149 - 67 - r) r 0 [] 0 (by omega) isb_empty (by simp only [List.length_nil]; omega)
    rw [show k + 149 - 67 - r + r + 67 = k + 149 by omega] at e
    refine ⟨b, _, _, ?_, hb, by simp only [List.length_nil]; omega, by simp only [List.length_nil]; omega, fun F => ?_⟩
    · rw [show k + 150 = (k + 149) + 1 from rfl, vernierref06_Head.l0, if_neg (by omega)]
      exact e
    · rw [str_neg hr (by omega)]
      have e1 : 73 - (([] : List Int).length + r + 3) = 70 - r := by simp only [List.length_nil]; omega
      rw [e1, Nat.zero_mul, Nat.mul_zero, Nat.zero_add, ← Nat.add_mul]
      unfold tl
      have e4 : (2 : Nat) ^ 129 = 4 * 2 ^ 127 := by decide
      rw [e4, Nat.one_mul]
      generalize (2 : Nat) ^ 127 = P
      generalize 2 ^ (70 - r) = X
      generalize (s % 4).toNat = E
      generalize F - P = G
      rw [Nat.add_mul 4 E P, Nat.add_assoc]
end Go.Proofs.Ytnlbfomlfhigcaa.M
namespace Go.Proofs.Ytnlbfomlfhigcaa.M
open Go.RowKit Go.Proofs.YtnlbfomlfhigcaaW.PrintWords Go.Proofs.YtnlbfomlfhigcaaW.PrintLast Go.Proofs.YtnlbfomlfhigcaaW.PrintMore Go.Proofs.Ytnlbfomlfhigcaa.Q
theorem isb_nil : IsBits (⟨#[]⟩ : ByteArray) 0 0 := ⟨rfl, by decide, fun i hi => absurd hi (Nat.not_lt_zero _)⟩
theorem isb_zz : IsBits (⟨#[48, 48]⟩ : ByteArray) 2 0 := ⟨rfl, by decide, fun i hi => by
  obtain rfl | rfl : i = 0 ∨ i = 1 := by omega
  · rfl
  · rfl⟩
theorem isb_z : IsBits (⟨#[48]⟩ : ByteArray) 1 0 := ⟨rfl, by decide, fun i hi => by
  obtain rfl : i = 0 := by omega
  rfl⟩
theorem isb_o : IsBits (⟨#[49]⟩ : ByteArray) 1 1 := ⟨rfl, by decide, fun i hi => by
  obtain rfl : i = 0 := by omega
  rfl⟩
theorem rsplit_j3 {b : ByteArray} {m q eb fb : Nat} (h : IsBits b m q) (hm : m ≤ 62) (heb : eb = min m 2) (hfb : fb = m - eb) (neg ones : Bool) (r rg : Int) (k : Nat) :
    vernierref06_Split.j3 (k + 67) b neg ones r rg (eb : Int) 0 0 0 = some (neg, ones, r, rg, (eb : Int), ((q / 2 ^ fb % 2 ^ eb * 2 ^ (2 - eb) : Nat) : Int), (fb : Int), ((q % 2 ^ fb : Nat) : Int), 0) := by
  have hA := h.extract (i := 0) (j := eb) (by omega) (by omega)
  have hB := hA.append isb_zz
  have hC := hB.extract (i := 0) (j := 2) (by omega) (by omega)
  have hD := h.extract (i := eb) (j := m) (by omega) (by omega)
  have hs := h.1
  rw [show k + 67 = (k + 66) + 1 from rfl, vernierref06_Split.j3, if_pos (by omega), if_pos (by omega), Int.toNat_natCast, if_pos (by rw [hA.1]; omega), if_pos (by decide), if_pos (by rw [hB.1]; omega), number_bits hC (by omega), Option.bind_some, hs, number_bits hD (by omega), Option.bind_some]
  have e1 : wrap64 ((m : Int) - (eb : Int)) = (fb : Int) := by unfold wrap64; omega
  have e2 : q / 2 ^ (m - m) % 2 ^ (m - eb) = q % 2 ^ fb := by rw [Nat.sub_self, Nat.pow_zero, Nat.div_one, hfb]
  have hx : q / 2 ^ fb % 2 ^ eb < 2 ^ eb := Nat.mod_lt _ (pow_pos _)
  have e3 : (q / 2 ^ (m - eb) % 2 ^ (eb - 0) * 2 ^ 2 + 0) / 2 ^ (eb - 0 + 2 - 2) % 2 ^ (2 - 0) = q / 2 ^ fb % 2 ^ eb * 2 ^ (2 - eb) := by
    rw [← hfb, Nat.sub_zero]
    generalize q / 2 ^ fb % 2 ^ eb = x at *
    have : eb = 0 ∨ eb = 1 ∨ eb = 2 := by omega
    rcases this with c | c | c <;> subst c
    · simp at hx
      subst hx
      rfl
    · simp at hx ⊢
      omega
    · simp at hx ⊢
      omega
  have e4 : q / 2 ^ fb % 2 ^ eb * 2 ^ (2 - eb) ≤ 3 := by
    generalize q / 2 ^ fb % 2 ^ eb = x at *
    have : eb = 0 ∨ eb = 1 ∨ eb = 2 := by omega
    rcases this with c | c | c <;> subst c <;> simp at hx ⊢ <;> omega
  rw [e1, e2, e3]
  rw [wrap64_id (by omega) (by omega)]
theorem rsplit_j2 {b : ByteArray} {m q eb fb : Nat} (h : IsBits b m q) (hm : m ≤ 62) (heb : eb = min m 2) (hfb : fb = m - eb) (neg ones : Bool) (r rg : Int) (k : Nat) :
    vernierref06_Split.j2 (k + 68) b neg ones r rg 0 0 0 0 = some (neg, ones, r, rg, (eb : Int), ((q / 2 ^ fb % 2 ^ eb * 2 ^ (2 - eb) : Nat) : Int), (fb : Int), ((q % 2 ^ fb : Nat) : Int), 0) := by
  have hs := h.1
  rw [show k + 68 = (k + 67) + 1 from rfl, vernierref06_Split.j2]
  by_cases c : m > 2
  · rw [if_pos (by omega)]
    have := rsplit_j3 h hm heb hfb neg ones r rg k
    rw [show eb = 2 by omega] at this ⊢
    exact this
  · rw [if_neg (by omega)]
    have := rsplit_j3 h hm heb hfb neg ones r rg k
    rw [hs]
    rw [show eb = m by omega] at this ⊢
    exact this
theorem parts_mod {v m eb fb : Nat} (hfm : fb + eb = m) : v % 2 ^ m / 2 ^ fb % 2 ^ eb = v / 2 ^ fb % 2 ^ eb ∧ v % 2 ^ m % 2 ^ fb = v % 2 ^ fb := by
  refine ⟨?_, Nat.mod_mod_of_dvd _ (Nat.pow_dvd_pow 2 (by omega))⟩
  rw [← hfm, Nat.pow_add, Nat.mod_mul_right_div_self, Nat.mod_mod]
theorem rsplit_j1 {b : ByteArray} {L v r m eb fb : Nat} (hB : IsBits b L v) (hL : L ≤ 63) (hr : r ≤ L) (hm : m = L - r - 1) (heb : eb = min m 2) (hfb : fb = m - eb) (neg ones : Bool) (rg : Int) (k : Nat) :
    vernierref06_Split.j1 (k + 69) b neg ones (r : Int) rg 0 0 0 0 = some (neg, ones, (r : Int), rg, (eb : Int), ((v / 2 ^ fb % 2 ^ eb * 2 ^ (2 - eb) : Nat) : Int), (fb : Int), ((v % 2 ^ fb : Nat) : Int), 0) := by
  have hBs := hB.1
  have hm62 : m ≤ 62 := by omega
  have hfm : fb + eb = m := by omega
  rw [show k + 69 = (k + 68) + 1 from rfl, vernierref06_Split.j1]
  by_cases c : r < L
  · have hw : wrap64 ((r : Int) + 1) = ((r + 1 : Nat) : Int) := by unfold wrap64; omega
    have hrL : r + 1 ≤ L := c
    have hmL : L - (r + 1) = m := by omega
    have i1 : (r : Int) < (b.size : Int) := by omega
    have i2 : (0 : Int) ≤ ((r + 1 : Nat) : Int) := by omega
    have i3 : ((r + 1 : Nat) : Int) ≤ (b.size : Int) := by omega
    have h2 := hB.extract hrL (Nat.le_refl L)
    rw [Nat.sub_self, Nat.pow_zero, Nat.div_one, hmL] at h2
    rw [if_pos i1, hw, if_pos i2, if_pos i3, Int.toNat_natCast, hBs, rsplit_j2 h2 hm62 heb hfb, (parts_mod hfm).1, (parts_mod hfm).2]
  · have i1 : ¬ (r : Int) < (b.size : Int) := by omega
    obtain rfl : m = 0 := by omega
    have e0 : v % 2 ^ 0 = 0 := by rw [Nat.pow_zero, Nat.mod_one]
    rw [if_neg i1, ← (parts_mod hfm).1, ← (parts_mod hfm).2, e0]
    exact rsplit_j2 isb_nil hm62 heb hfb _ _ _ _ _
theorem Runs.le {L y r r' : Nat} {o : Bool} (h : Runs L y r o) (h' : Runs L y r' o) : r' ≤ r := by
  obtain ⟨_, a2, a3⟩ := h
  obtain ⟨_, b2, b3⟩ := h'
  refine Nat.le_of_not_lt fun c => ?_
  have hp := pow_le (show L - r' ≤ L - r - 1 by omega)
  cases o
  · simp only [Bool.false_eq_true, if_false] at a3 b3
    omega
  · simp only [if_true] at a3 b3
    omega
theorem Runs.uniq {L y r r' : Nat} {o : Bool} (h : Runs L y r o) (h' : Runs L y r' o) : r = r' := Nat.le_antisymm (h'.le h) (h.le h')
theorem rsplit {n p : Nat} (hn : Wd n) (hp : p < 2 ^ 64) (hk : knd n (p % 2 ^ n) = 1) : ∃ r m eb fb : Nat, Runs (n - 1) (mag n (p % 2 ^ n)) r (decide (2 ^ (n - 1 - 1) ≤ mag n (p % 2 ^ n))) ∧ m = n - 1 - r - 1 ∧ eb = min m 2 ∧ fb = m - eb ∧
    ∀ k, vernierref06_Split.f (k + 70) (n : Int) (p : Int) = some (sgn n (p % 2 ^ n), decide (2 ^ (n - 1 - 1) ≤ mag n (p % 2 ^ n)), (r : Int), reg r (decide (2 ^ (n - 1 - 1) ≤ mag n (p % 2 ^ n))), (eb : Int),
      ((mag n (p % 2 ^ n) / 2 ^ fb % 2 ^ eb * 2 ^ (2 - eb) : Nat) : Int), (fb : Int), ((mag n (p % 2 ^ n) % 2 ^ fb : Nat) : Int), 0) := by
  have hb := hn.bd
  obtain ⟨b, _, hB⟩ := rstring hn hp hk 0
  obtain ⟨r, _, hR⟩ := rrun hB (by omega) (by omega) 0
  have hr := hR.2.1
  have hr1 := hR.1
  refine ⟨r, n - 1 - r - 1, min (n - 1 - r - 1) 2, n - 1 - r - 1 - min (n - 1 - r - 1) 2, hR, rfl, rfl, rfl, fun k => ?_⟩
  clear hB
  obtain ⟨b, hS, hB⟩ := rstring hn hp hk (k + 3)
  obtain ⟨t, hT, hTB⟩ := text_bits p hb.2 (k + 3)
  obtain ⟨r', hr', hR'⟩ := rrun hB (by omega) (by omega) (k + 3)
  obtain rfl := hR.uniq hR'
  clear hR'
  have hfb := first_bit hB (by omega)
  have hft := first_bit hTB (by omega)
  have hBs := hB.1
  unfold vernierref06_Split.f
  rw [show k + 70 = (k + 4) + 66 from rfl, rkind hn, hk, Option.bind_some]
  show (if (0 : Int) = 0 then vernierref06_Split.j0 ((k + 69) + 1) (n : Int) (p : Int) 0 (((1 : Nat) : Int) != 1) else _) = _
  rw [if_pos rfl, show (((1 : Nat) : Int) != 1) = false from rfl, vernierref06_Split.j0, if_neg (by decide), show k + 69 = k + 3 + 66 from rfl, hS, Option.bind_some, hT, Option.bind_some, if_pos (by rw [hTB.1]; omega), if_pos (by omega), hr', Option.bind_some]
  have e1 : (bt t 0 == 49) = sgn n (p % 2 ^ n) := by
    rw [hft]
    unfold sgn
    by_cases c : 2 ^ (n - 1) ≤ p % 2 ^ n
    · rw [if_pos c, decide_eq_true c]
      rfl
    · rw [if_neg c, decide_eq_false c]
      rfl
  have e2 : (bt b 0 == 49) = decide (2 ^ (n - 1 - 1) ≤ mag n (p % 2 ^ n)) := by
    rw [hfb]
    by_cases c : 2 ^ (n - 1 - 1) ≤ mag n (p % 2 ^ n)
    · rw [if_pos c, decide_eq_true c]
      rfl
    · rw [if_neg c, decide_eq_false c]
      rfl
  have hj : ∀ rg : Int, vernierref06_Split.j1 (k + 3 + 66) b (sgn n (p % 2 ^ n)) (decide (2 ^ (n - 1 - 1) ≤ mag n (p % 2 ^ n))) (r : Int) rg 0 0 0 0 = some (sgn n (p % 2 ^ n), decide (2 ^ (n - 1 - 1) ≤ mag n (p % 2 ^ n)), (r : Int), rg, ((min (n - 1 - r - 1) 2 : Nat) : Int),
      ((mag n (p % 2 ^ n) / 2 ^ (n - 1 - r - 1 - min (n - 1 - r - 1) 2) % 2 ^ min (n - 1 - r - 1) 2 * 2 ^ (2 - min (n - 1 - r - 1) 2) : Nat) : Int), ((n - 1 - r - 1 - min (n - 1 - r - 1) 2 : Nat) : Int), ((mag n (p % 2 ^ n) % 2 ^ (n - 1 - r - 1 - min (n - 1 - r - 1) 2) : Nat) : Int), 0) := by
    intro rg
    exact rsplit_j1 hB (by omega) hr rfl rfl rfl _ _ _ _
  rw [e1, e2]
  by_cases c : 2 ^ (n - 1 - 1) ≤ mag n (p % 2 ^ n)
  · have hw : wrap64 ((r : Int) - 1) = reg r (decide (2 ^ (n - 1 - 1) ≤ mag n (p % 2 ^ n))) := by
      rw [decide_eq_true c, wrap64_id (by omega) (by omega)]
      rfl
    rw [if_pos (by rw [hfb, if_pos c]), hw, hj]
  · have hw : wrap64 (-(r : Int)) = reg r (decide (2 ^ (n - 1 - 1) ≤ mag n (p % 2 ^ n))) := by
      rw [decide_eq_false c, wrap64_id (by omega) (by omega)]
      rfl
    rw [if_neg (by rw [hfb, if_neg c]; decide), hw, hj]
theorem pad_l0 (neg : Bool) (sc : Int) (k : Nat) : ∀ (d : Nat) (b : ByteArray) (j v : Nat), IsBits b j v → j + d = 64 → vernierref06_Decodes.l0 (k + d + 67) b 1 neg sc 0 = some (1, neg, sc, ((v * 2 ^ d : Nat) : Int), 0) := by
  intro d
  induction d with
  | zero =>
    intro b j v h hj
    have hs := h.1
    rw [show k + 0 + 67 = (k + 66) + 1 from rfl, vernierref06_Decodes.l0, if_neg (by omega), number_bits h (by omega), Option.bind_some, Nat.pow_zero, Nat.mul_one]
  | succ d ih =>
    intro b j v h hj
    have hs := h.1
    rw [show k + (d + 1) + 67 = (k + d + 67) + 1 by omega, vernierref06_Decodes.l0, if_pos (by omega), if_pos (by omega), ih _ (j + 1) _ (h.append isb_z) (by omega)]
    rw [Nat.pow_one, Nat.add_zero, Nat.mul_assoc, ← Nat.pow_succ']
theorem rdec_real {n p : Nat} (hn : Wd n) (hp : p < 2 ^ 64) (hk : knd n (p % 2 ^ n) = 1) : ∃ s : Int, ∃ f : Nat, Dec n (mag n (p % 2 ^ n)) s f ∧
    ∀ k, vernierref06_Decodes.f (k + 140) (n : Int) (p : Int) = some (1, sgn n (p % 2 ^ n), s, (f : Int), 0) := by
  have hb := hn.bd
  obtain ⟨r, m, eb, fb, hR, hm, heb, hfb, hS⟩ := rsplit hn hp hk
  have hy : p % 2 ^ n < 2 ^ n := Nat.mod_lt _ (pow_pos _)
  obtain ⟨m1, m2⟩ := mag_bd hn hy hk
  obtain ⟨hD, hfb61, he3, hfr⟩ := parse_dec hn _ m1 m2 hR m eb fb _ _ hm heb hfb rfl rfl
  refine ⟨_, _, hD, fun k => ?_⟩
  have hr := hR.2.1
  have hr1 := hR.1
  generalize hE : mag n (p % 2 ^ n) / 2 ^ fb % 2 ^ eb * 2 ^ (2 - eb) = E at *
  generalize hF : mag n (p % 2 ^ n) % 2 ^ fb = fr at *
  generalize hO : decide (2 ^ (n - 1 - 1) ≤ mag n (p % 2 ^ n)) = ones at *
  clear hR m1 m2 hD hE hO
  have hsc : wrap64 (wrap64 (4 * reg r ones) + (E : Int)) = 4 * reg r ones + (E : Int) := by
    unfold reg
    cases ones
    · simp only [Bool.false_eq_true, if_false]
      unfold wrap64
      omega
    · simp only [if_true]
      unfold wrap64
      omega
  obtain ⟨t, hT, hTB⟩ := text_bits fr (n := fb) (by omega) (k + 73)
  have hB := isb_o.append hTB
  have hts := hTB.1
  have hpad := pad_l0 (sgn n (p % 2 ^ n)) (4 * reg r ones + (E : Int)) (k + 139 - 67 - (64 - (1 + fb))) (64 - (1 + fb)) _ _ _ hB (by omega)
  rw [show k + 139 - 67 - (64 - (1 + fb)) + (64 - (1 + fb)) + 67 = k + 139 by omega] at hpad
  unfold vernierref06_Decodes.f
  rw [show k + 140 = (k + 74) + 66 from rfl, rkind hn, hk, Option.bind_some]
  show (if (0 : Int) = 0 then vernierref06_Decodes.j0 ((k + 139) + 1) (n : Int) (p : Int) ((1 : Nat) : Int) 0 (((1 : Nat) : Int) != 1) else _) = _
  rw [if_pos rfl, show (((1 : Nat) : Int) != 1) = false from rfl, vernierref06_Decodes.j0, if_neg (by decide), show k + 139 = (k + 69) + 70 from rfl, hS, Option.bind_some]
  show ((vernierref01_Text.f ((k + 73) + 66) (fr : Int) (fb : Int)).bind fun t423 => (if 1 + t423.size ≤ 9223372036854775807 then (vernierref06_Decodes.l0 (k + 139) ((⟨#[49]⟩ : ByteArray) ++ t423) ((1 : Nat) : Int) (sgn n (p % 2 ^ n)) (wrap64 ((wrap64 (4 * reg r ones)) + (E : Int))) 0) else (none))) = _
  rw [hT, Option.bind_some, if_pos (by omega), hsc]
  refine hpad.trans ?_
  have e : (1 * 2 ^ fb + fr % 2 ^ fb) * 2 ^ (64 - (1 + fb)) = 2 ^ 63 + fr * 2 ^ (63 - fb) := by
    rw [Nat.mod_eq_of_lt hfr, Nat.one_mul, Nat.add_mul, show 64 - (1 + fb) = 63 - fb by omega, ← Nat.pow_add, show fb + (63 - fb) = 63 by omega]
  rw [e]
theorem rdec_zero {n p : Nat} (hn : Wd n) (hk : knd n (p % 2 ^ n) = 0) (k : Nat) : vernierref06_Decodes.f (k + 140) (n : Int) (p : Int) = some (0, false, 0, 0, 0) := by
  unfold vernierref06_Decodes.f
  rw [show k + 140 = (k + 74) + 66 from rfl, rkind hn, hk, Option.bind_some]
  show (if (0 : Int) = 0 then vernierref06_Decodes.j0 ((k + 139) + 1) (n : Int) (p : Int) ((0 : Nat) : Int) 0 (((0 : Nat) : Int) != 1) else _) = _
  rw [if_pos rfl, show (((0 : Nat) : Int) != 1) = true from rfl, vernierref06_Decodes.j0, if_pos rfl]
  rfl
theorem rdec_nar {n p : Nat} (hn : Wd n) (hk : knd n (p % 2 ^ n) = 2) (k : Nat) : vernierref06_Decodes.f (k + 140) (n : Int) (p : Int) = some (2, false, 0, 0, 0) := by
  unfold vernierref06_Decodes.f
  rw [show k + 140 = (k + 74) + 66 from rfl, rkind hn, hk, Option.bind_some]
  show (if (0 : Int) = 0 then vernierref06_Decodes.j0 ((k + 139) + 1) (n : Int) (p : Int) ((2 : Nat) : Int) 0 (((2 : Nat) : Int) != 1) else _) = _
  rw [if_pos rfl, show (((2 : Nat) : Int) != 1) = true from rfl, vernierref06_Decodes.j0, if_pos rfl]
  rfl
end Go.Proofs.Ytnlbfomlfhigcaa.M
