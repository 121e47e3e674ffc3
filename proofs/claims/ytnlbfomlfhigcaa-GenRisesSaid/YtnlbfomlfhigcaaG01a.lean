/- Walks and plain laws that the claim stands on: each theorem named calls says that a call of a function returns what its f computes; the others are plain laws of these f. -/
import Derived.Lib.ItoaNum
import Derived.Test.YtnlbfomlfhigcaaG0123a
import Derived.Test.YtnlbfomlfhigcaaG0123456a
import Derived.Test.YtnlbfomlfhigcaaG0123456b
import Derived.Test.YtnlbfomlfhigcaaG0123456f
import Derived.Test.YtnlbfomlfhigcaaG0123456c
import Derived.Test.YtnlbfomlfhigcaaG015a
import Derived.Test.YtnlbfomlfhigcaaG01235a
namespace Go.Proofs.Ytnlbfomlfhigcaa.M
open Go.Proofs.Ytnlbfomlfhigcaa.Q
set_option maxRecDepth 100000 in
theorem up_run : vernierlaw14_up.f 200 = some true := by decide +kernel
end Go.Proofs.Ytnlbfomlfhigcaa.M
namespace Go.Proofs.Ytnlbfomlfhigcaa.M

/-- What stands behind the run: two bits of exponent and 127 of fraction. -/
def tl (s : Int) (F : Nat) : Nat := (s % 4).toNat * 2 ^ 127 + (F - 2 ^ 127)
/-- The string of 2^(s-127) F, as a number of 200 bits, the first bit the highest. -/
def str (s : Int) (F : Nat) : Nat :=
  if 0 ≤ s / 4 then 2 ^ 200 - 2 ^ 130 * 2 ^ (69 - (s / 4).toNat) + tl s F * 2 ^ (69 - (s / 4).toNat)
  else 2 ^ 129 * 2 ^ (70 - (-(s / 4)).toNat) + tl s F * 2 ^ (70 - (-(s / 4)).toNat)

theorem tl_lt {s : Int} {F : Nat} (hF : F < 2 ^ 128) : tl s F < 2 ^ 129 := by
  unfold tl
  have h1 : (s % 4).toNat ≤ 3 := by omega
  omega
theorem str_pos {s : Int} {F k : Nat} (h : s / 4 = (k : Int)) : str s F = 2 ^ 200 - 2 ^ 130 * 2 ^ (69 - k) + tl s F * 2 ^ (69 - k) := by
  unfold str
  rw [if_pos (by omega), h]
  rfl
theorem str_neg {s : Int} {F r : Nat} (h : s / 4 = -(r : Int)) (hr : 1 ≤ r) : str s F = 2 ^ 129 * 2 ^ (70 - r) + tl s F * 2 ^ (70 - r) := by
  unfold str
  rw [if_neg (by omega), h, show (-(-(r : Int))).toNat = r by omega]
theorem pow_le {a b : Nat} (h : a ≤ b) : 2 ^ a ≤ 2 ^ b := Nat.pow_le_pow_right (by omega) h
theorem pow_dbl {a b : Nat} (h : a + 1 ≤ b) : 2 * 2 ^ a ≤ 2 ^ b := by
  have := pow_le h
  rw [Nat.pow_succ] at this
  omega
theorem pow_pos (a : Nat) : 1 ≤ 2 ^ a := Nat.one_le_two_pow
/-- k at most 69: the run of ones has room. -/
theorem pos_room {k : Nat} (h : k ≤ 69) : 2 ^ 130 * 2 ^ (69 - k) ≤ 2 ^ 199 := by
  have := pow_le (show 69 - k ≤ 69 by omega)
  calc 2 ^ 130 * 2 ^ (69 - k) ≤ 2 ^ 130 * 2 ^ 69 := Nat.mul_le_mul_left _ this
    _ = 2 ^ 199 := by rw [← Nat.pow_add]
/-- Bounds of a string, the scale not below nought. -/
theorem str_pos_bd {s : Int} {F k : Nat} (h : s / 4 = (k : Int)) (hk : k ≤ 69) (hF : F < 2 ^ 128) :
    2 ^ 200 - 2 ^ 130 * 2 ^ (69 - k) ≤ str s F ∧ str s F < 2 ^ 200 - 2 ^ 129 * 2 ^ (69 - k) ∧ 2 ^ 199 ≤ str s F := by
  rw [str_pos h]
  have h1 := pos_room hk
  have h2 := tl_lt (s := s) hF
  have h3 := pow_pos (69 - k)
  generalize 2 ^ (69 - k) = a at *
  have h4 : tl s F * a + a ≤ 2 ^ 129 * a := by
    have := Nat.mul_le_mul_right a (show tl s F + 1 ≤ 2 ^ 129 by omega)
    rw [Nat.add_mul] at this
    omega
  generalize tl s F * a = b at *
  have h5 : 2 ^ 130 * a = 2 * (2 ^ 129 * a) := by rw [← Nat.mul_assoc, ← Nat.pow_succ']
  omega
/-- Bounds of a string, the scale below nought. -/
theorem str_neg_bd {s : Int} {F r : Nat} (h : s / 4 = -(r : Int)) (hr : 1 ≤ r) (hr2 : r ≤ 70) (hF : F < 2 ^ 128) :
    2 ^ 129 * 2 ^ (70 - r) ≤ str s F ∧ str s F < 2 ^ 130 * 2 ^ (70 - r) ∧ str s F < 2 ^ 199 := by
  rw [str_neg h hr]
  have h2 := tl_lt (s := s) hF
  have h3 := pow_pos (70 - r)
  have h6 : 2 ^ 130 * 2 ^ (70 - r) ≤ 2 ^ 199 := by
    calc 2 ^ 130 * 2 ^ (70 - r) ≤ 2 ^ 130 * 2 ^ 69 := Nat.mul_le_mul_left _ (pow_le (by omega))
      _ = 2 ^ 199 := by rw [← Nat.pow_add]
  generalize 2 ^ (70 - r) = a at *
  have h4 : tl s F * a + a ≤ 2 ^ 129 * a := by
    have := Nat.mul_le_mul_right a (show tl s F + 1 ≤ 2 ^ 129 by omega)
    rw [Nat.add_mul] at this
    omega
  generalize tl s F * a = b at *
  have h5 : 2 ^ 130 * a = 2 * (2 ^ 129 * a) := by rw [← Nat.mul_assoc, ← Nat.pow_succ']
  omega
theorem tl_mono {s s' : Int} {F F' : Nat} (hk : s / 4 = s' / 4) (hF : 2 ^ 127 ≤ F) (hF2 : F < 2 ^ 128) (hG : 2 ^ 127 ≤ F') (h : s < s' ∨ (s = s' ∧ F < F')) : tl s F < tl s' F' := by
  unfold tl
  rcases h with h | ⟨rfl, h⟩
  · have h1 : (s % 4).toNat + 1 ≤ (s' % 4).toNat := by omega
    omega
  · omega
/-- The order of strings is the order of values. -/
theorem str_lt {s s' : Int} {F F' : Nat} (hs : -270 ≤ s) (hs2 : s ≤ 270) (ht : -270 ≤ s') (ht2 : s' ≤ 270) (hF : 2 ^ 127 ≤ F) (hF2 : F < 2 ^ 128) (hG : 2 ^ 127 ≤ F') (hG2 : F' < 2 ^ 128)
    (h : s < s' ∨ (s = s' ∧ F < F')) : str s F < str s' F' := by
  have hk : s / 4 ≤ s' / 4 := by omega
  by_cases h0 : 0 ≤ s / 4
  · obtain ⟨k, hk0⟩ := Int.eq_ofNat_of_zero_le h0
    obtain ⟨k', hk1⟩ := Int.eq_ofNat_of_zero_le (show 0 ≤ s' / 4 by omega)
    by_cases e : k = k'
    · subst e
      have := tl_mono (by omega) hF hF2 hG h
      rw [str_pos hk0, str_pos hk1]
      have h1 := pos_room (show k ≤ 69 by omega)
      have h2 : tl s F * 2 ^ (69 - k) < tl s' F' * 2 ^ (69 - k) := Nat.mul_lt_mul_of_pos_right this (pow_pos _)
      omega
    · have h1 := str_pos_bd hk0 (by omega) hF2
      have h2 := str_pos_bd hk1 (by omega) hG2
      have h3 := pow_dbl (show (69 - k') + 1 ≤ 69 - k by omega)
      have h4 := pos_room (show k ≤ 69 by omega)
      have h5 := pos_room (show k' ≤ 69 by omega)
      generalize 2 ^ (69 - k) = a at *
      generalize 2 ^ (69 - k') = b at *
      have h6 : 2 ^ 130 * b = 2 ^ 129 * (2 * b) := by rw [← Nat.mul_assoc, ← Nat.pow_succ]
      have h7 : 2 ^ 129 * (2 * b) ≤ 2 ^ 129 * a := Nat.mul_le_mul_left _ h3
      omega
  · obtain ⟨r, hr0⟩ : ∃ r : Nat, s / 4 = -(r : Int) := ⟨(-(s / 4)).toNat, by omega⟩
    have g1 := str_neg_bd hr0 (by omega) (by omega) hF2
    by_cases h1 : 0 ≤ s' / 4
    · obtain ⟨k', hk1⟩ := Int.eq_ofNat_of_zero_le h1
      have h2 := str_pos_bd hk1 (by omega) hG2
      omega
    · obtain ⟨r', hr1⟩ : ∃ r : Nat, s' / 4 = -(r : Int) := ⟨(-(s' / 4)).toNat, by omega⟩
      by_cases e : r = r'
      · subst e
        have := tl_mono (by omega) hF hF2 hG h
        rw [str_neg hr0 (by omega), str_neg hr1 (by omega)]
        have h2 : tl s F * 2 ^ (70 - r) < tl s' F' * 2 ^ (70 - r) := Nat.mul_lt_mul_of_pos_right this (pow_pos _)
        omega
      · have g2 := str_neg_bd hr1 (by omega) (by omega) hG2
        have h3 := pow_dbl (show (70 - r) + 1 ≤ 70 - r' by omega)
        generalize 2 ^ (70 - r) = a at *
        generalize 2 ^ (70 - r') = b at *
        have h6 : 2 ^ 130 * a = 2 ^ 129 * (2 * a) := by rw [← Nat.mul_assoc, ← Nat.pow_succ]
        have h7 : 2 ^ 129 * (2 * a) ≤ 2 ^ 129 * b := Nat.mul_le_mul_left _ h3
        omega
theorem str_inj {s s' : Int} {F F' : Nat} (hs : -270 ≤ s) (hs2 : s ≤ 270) (ht : -270 ≤ s') (ht2 : s' ≤ 270) (hF : 2 ^ 127 ≤ F) (hF2 : F < 2 ^ 128) (hG : 2 ^ 127 ≤ F') (hG2 : F' < 2 ^ 128)
    (h : str s F = str s' F') : s = s' ∧ F = F' := by
  rcases Int.lt_trichotomy s s' with a | a | a
  · have := str_lt hs hs2 ht ht2 hF hF2 hG hG2 (.inl a); omega
  · rcases Nat.lt_trichotomy F F' with b | b | b
    · have := str_lt hs hs2 ht ht2 hF hF2 hG hG2 (.inr ⟨a, b⟩); omega
    · exact ⟨a, b⟩
    · have := str_lt ht ht2 hs hs2 hG hG2 hF hF2 (.inr ⟨a.symm, b⟩); omega
  · have := str_lt ht ht2 hs hs2 hG hG2 hF hF2 (.inl a); omega

/-- V, cut at the unit D and rounded: to the nearest, of two to the even one. -/
def rnd (D V : Nat) : Nat := if D < 2 * (V % D) ∨ (D = 2 * (V % D) ∧ V / D % 2 = 1) then V / D + 1 else V / D
theorem rnd_bd (D V : Nat) : V / D ≤ rnd D V ∧ rnd D V ≤ V / D + 1 := by
  unfold rnd
  split <;> omega
theorem rnd_mono {D V V' : Nat} (h : V ≤ V') : rnd D V ≤ rnd D V' := by
  have h1 := rnd_bd D V
  have h2 := rnd_bd D V'
  have h3 : V / D ≤ V' / D := Nat.div_le_div_right h
  by_cases e : V / D = V' / D
  · have e1 := Nat.div_add_mod V D
    have e2 := Nat.div_add_mod V' D
    unfold rnd
    rw [← e] at e2 ⊢
    generalize D * (V / D) = x at e1 e2
    split
    · rw [if_pos (by omega)]; omega
    · split <;> omega
  · omega
theorem rnd_mul {D q : Nat} (hD : 0 < D) : rnd D (q * D) = q := by
  unfold rnd
  rw [Nat.mul_mod_left, Nat.mul_div_cancel _ hD, if_neg (by omega)]
/-- The pattern nearest to a number above nought, in n bits; b: something more behind the digits. -/
def rpos (n : Nat) (s : Int) (F : Nat) (b : Bool) : Nat :=
  if 4 * (n : Int) - 8 ≤ s then 2 ^ (n - 1) - 1 else if s < 8 - 4 * (n : Int) then 1 else rnd (2 ^ (202 - n)) (2 * str s F + b.toNat)
theorem toNat_le (b : Bool) : b.toNat ≤ 1 := by cases b <;> decide
/-- A width. -/
def Wd (n : Nat) : Prop := n = 8 ∨ n = 16 ∨ n = 32 ∨ n = 64
theorem Wd.bd {n : Nat} (h : Wd n) : 8 ≤ n ∧ n ≤ 64 := by unfold Wd at h; omega
theorem unit_eq {n : Nat} (h : Wd n) : 2 ^ (n - 1) * 2 ^ (201 - n) = 2 ^ 200 ∧ 2 ^ (202 - n) = 2 * 2 ^ (201 - n) := by
  have := h.bd
  constructor
  · rw [← Nat.pow_add]; congr 1; omega
  · rw [← Nat.pow_succ']; congr 1; omega
/-- In between the greatest and the least scale the pattern is neither 0 nor NaR. -/
theorem rnd_in {n : Nat} (hn : Wd n) {s : Int} {F : Nat} (b : Bool) (h1 : 8 - 4 * (n : Int) ≤ s) (h2 : s < 4 * (n : Int) - 8) (hF2 : F < 2 ^ 128) :
    1 ≤ rnd (2 ^ (202 - n)) (2 * str s F + b.toNat) ∧ rnd (2 ^ (202 - n)) (2 * str s F + b.toNat) ≤ 2 ^ (n - 1) - 1 := by
  have hb := hn.bd
  have hbb := toNat_le b
  obtain ⟨u1, u2⟩ := unit_eq hn
  have r := rnd_bd (2 ^ (202 - n)) (2 * str s F + b.toNat)
  have up : str s F < 2 ^ 200 - 2 ^ (201 - n) := by
    by_cases h0 : 0 ≤ s / 4
    · obtain ⟨k, hk⟩ := Int.eq_ofNat_of_zero_le h0
      have := (str_pos_bd hk (by omega) hF2).2.1
      have e : 2 ^ (201 - n) ≤ 2 ^ 129 * 2 ^ (69 - k) := by rw [← Nat.pow_add]; exact pow_le (by omega)
      have := pos_room (show k ≤ 69 by omega)
      omega
    · obtain ⟨r, hr⟩ : ∃ r : Nat, s / 4 = -(r : Int) := ⟨(-(s / 4)).toNat, by omega⟩
      have := (str_neg_bd hr (by omega) (by omega) hF2).2.2
      have e : 2 ^ (201 - n) ≤ 2 ^ 193 := pow_le (by omega)
      omega
  have lo : 2 ^ (201 - n) ≤ str s F := by
    by_cases h0 : 0 ≤ s / 4
    · obtain ⟨k, hk⟩ := Int.eq_ofNat_of_zero_le h0
      have := (str_pos_bd hk (by omega) hF2).2.2
      have e : 2 ^ (201 - n) ≤ 2 ^ 193 := pow_le (by omega)
      omega
    · obtain ⟨r, hr⟩ : ∃ r : Nat, s / 4 = -(r : Int) := ⟨(-(s / 4)).toNat, by omega⟩
      have := (str_neg_bd hr (by omega) (by omega) hF2).1
      have e : 2 ^ (201 - n) ≤ 2 ^ 129 * 2 ^ (70 - r) := by rw [← Nat.pow_add]; exact pow_le (by omega)
      omega
  have hp := pow_pos (201 - n)
  have hq := pow_pos (n - 1)
  generalize str s F = S at *
  rw [u2] at r ⊢
  generalize 2 ^ (201 - n) = d at *
  generalize 2 ^ (n - 1) = m at *
  have q1 : 1 ≤ (2 * S + b.toNat) / (2 * d) := (Nat.le_div_iff_mul_le (by omega)).2 (by omega)
  have q2 : (2 * S + b.toNat) / (2 * d) < m - 1 := by
    rw [Nat.div_lt_iff_lt_mul (by omega)]
    have : (m - 1) * (2 * d) = 2 * (m * d) - 2 * d := by rw [Nat.sub_mul, Nat.one_mul, Nat.mul_left_comm]
    rw [this, u1]
    omega
  omega
theorem rpos_bd {n : Nat} (hn : Wd n) (s : Int) {F : Nat} (b : Bool) (hF2 : F < 2 ^ 128) : 1 ≤ rpos n s F b ∧ rpos n s F b ≤ 2 ^ (n - 1) - 1 := by
  have hb := hn.bd
  have : 2 ^ 1 ≤ 2 ^ (n - 1) := pow_le (by omega)
  unfold rpos
  split
  · omega
  · split
    · omega
    · exact rnd_in hn b (by omega) (by omega) hF2
/-- Which of two numbers (scale, digits, something behind) is the greater one, or are they alike. -/
def leq (s : Int) (F : Nat) (b : Bool) (s' : Int) (F' : Nat) (b' : Bool) : Prop := s < s' ∨ (s = s' ∧ 2 * F + b.toNat ≤ 2 * F' + b'.toNat)
/-- A greater number's pattern is no less. -/
theorem rpos_mono {n : Nat} (hn : Wd n) {s s' : Int} {F F' : Nat} {b b' : Bool} (hF : 2 ^ 127 ≤ F) (hF2 : F < 2 ^ 128) (hG : 2 ^ 127 ≤ F') (hG2 : F' < 2 ^ 128)
    (h : leq s F b s' F' b') : rpos n s F b ≤ rpos n s' F' b' := by
  have hb := hn.bd
  have hbb := toNat_le b
  have hbb' := toNat_le b'
  by_cases h1 : 4 * (n : Int) - 8 ≤ s'
  · have := (rpos_bd hn s b hF2).2
    have e : rpos n s' F' b' = 2 ^ (n - 1) - 1 := by unfold rpos; rw [if_pos h1]
    omega
  · by_cases h2 : s < 8 - 4 * (n : Int)
    · have := (rpos_bd hn s' b' hG2).1
      have e : rpos n s F b = 1 := by unfold rpos; rw [if_neg (by omega), if_pos h2]
      omega
    · unfold leq at h
      unfold rpos
      rw [if_neg (by omega), if_neg (by omega), if_neg (by omega), if_neg (by omega)]
      refine rnd_mono ?_
      rcases h with h | ⟨rfl, h⟩
      · have := str_lt (by omega) (by omega) (by omega) (by omega) hF hF2 hG hG2 (.inl h)
        omega
      · by_cases e : F = F'
        · subst e; omega
        · have := str_lt (s := s) (s' := s) (by omega) (by omega) (by omega) (by omega) hF hF2 hG hG2 (.inr ⟨rfl, show F < F' by omega⟩)
          omega

/-- The pattern p (n bits, the highest 0, p not 0) means 2^(s-63) f. -/
def Dec (n p : Nat) (s : Int) (f : Nat) : Prop :=
  2 ^ 63 ≤ f ∧ f < 2 ^ 64 ∧ 8 - 4 * (n : Int) ≤ s ∧ s ≤ 4 * (n : Int) - 8 ∧ str s (f * 2 ^ 64) = p * 2 ^ (201 - n)
theorem Dec.F {n p : Nat} {s : Int} {f : Nat} (h : Dec n p s f) : 2 ^ 127 ≤ f * 2 ^ 64 ∧ f * 2 ^ 64 < 2 ^ 128 := by
  unfold Dec at h
  omega
theorem Dec.uniq {n p : Nat} (hn : Wd n) {s s' : Int} {f f' : Nat} (h : Dec n p s f) (h' : Dec n p s' f') : s = s' ∧ f = f' := by
  have hb := hn.bd
  have := str_inj (by unfold Dec at h; omega) (by unfold Dec at h; omega) (by unfold Dec at h'; omega) (by unfold Dec at h'; omega) h.F.1 h.F.2 h'.F.1 h'.F.2 (h.2.2.2.2.trans h'.2.2.2.2.symm)
  exact ⟨this.1, by omega⟩
theorem Dec.pos {n p : Nat} (hn : Wd n) {s : Int} {f : Nat} (h : Dec n p s f) (hs : s = 4 * (n : Int) - 8) : 2 ^ (n - 1) - 1 ≤ p := by
  have hb := hn.bd
  have h1 := (str_pos_bd (s := s) (F := f * 2 ^ 64) (k := n - 2) (by omega) (by omega) h.F.2).1
  obtain ⟨u1, u2⟩ := unit_eq hn
  rw [h.2.2.2.2] at h1
  have e : 2 ^ 130 * 2 ^ (69 - (n - 2)) = 2 ^ (201 - n) := by rw [← Nat.pow_add]; congr 1; omega
  rw [e, ← u1] at h1
  have hp := pow_pos (201 - n)
  have hq := pow_pos (n - 1)
  generalize 2 ^ (201 - n) = d at *
  have : (2 ^ (n - 1) - 1) * d ≤ p * d := by rw [Nat.sub_mul, Nat.one_mul]; exact h1
  exact Nat.le_of_mul_le_mul_right this hp
/-- From a width to one that isn't less the pattern gets noughts behind it. -/
theorem Dec.widen {n m p : Nat} (hn : Wd n) (hm : Wd m) (hnm : n ≤ m) {s : Int} {f : Nat} (h : Dec n p s f) (hp : p < 2 ^ (n - 1)) :
    rpos m s (f * 2 ^ 64) false = p * 2 ^ (m - n) ∧ Dec m (p * 2 ^ (m - n)) s f := by
  have hb := hn.bd
  have hb' := hm.bd
  have e1 : p * 2 ^ (m - n) * 2 ^ (201 - m) = p * 2 ^ (201 - n) := by rw [Nat.mul_assoc, ← Nat.pow_add]; congr 2; omega
  have h2 := h
  unfold Dec at h2
  constructor
  · unfold rpos
    by_cases e : 4 * (m : Int) - 8 ≤ s
    · have : m = n := by omega
      subst this
      have := h.pos hn (by omega)
      rw [if_pos e, Nat.sub_self, Nat.pow_zero]
      omega
    · rw [if_neg e, if_neg (by omega), h2.2.2.2.2, ← e1]
      have : 2 * (p * 2 ^ (m - n) * 2 ^ (201 - m)) + false.toNat = p * 2 ^ (m - n) * 2 ^ (202 - m) := by
        rw [(unit_eq hm).2]
        show 2 * _ + 0 = _
        rw [Nat.add_zero, Nat.mul_left_comm]
      rw [this]
      exact rnd_mul (pow_pos _)
  · unfold Dec
    refine ⟨h2.1, h2.2.1, by omega, by omega, ?_⟩
    rw [h2.2.2.2.2, e1]
/-- A pattern is what its number is rounded to. -/
theorem Dec.back {n p : Nat} (hn : Wd n) {s : Int} {f : Nat} (h : Dec n p s f) (hp : p < 2 ^ (n - 1)) : rpos n s (f * 2 ^ 64) false = p := by
  have := (h.widen hn hn (Nat.le_refl _) hp).1
  rw [Nat.sub_self, Nat.pow_zero, Nat.mul_one] at this
  exact this
/-- The order of patterns is the order of what they mean. -/
theorem Dec.lt {n p q : Nat} (hn : Wd n) {s s' : Int} {f f' : Nat} (h : Dec n p s f) (h' : Dec n q s' f') (hpq : p ≤ q) : s < s' ∨ (s = s' ∧ f ≤ f') := by
  have hb := hn.bd
  have h2 := h
  have h3 := h'
  unfold Dec at h2 h3
  have e : p * 2 ^ (201 - n) ≤ q * 2 ^ (201 - n) := Nat.mul_le_mul_right _ hpq
  rw [← h2.2.2.2.2, ← h3.2.2.2.2] at e
  by_cases c : s < s' ∨ (s = s' ∧ f ≤ f')
  · exact c
  · have := str_lt (s := s') (s' := s) (F := f' * 2 ^ 64) (F' := f * 2 ^ 64) (by omega) (by omega) (by omega) (by omega) h'.F.1 h'.F.2 h.F.1 h.F.2 (by omega)
    omega
end Go.Proofs.Ytnlbfomlfhigcaa.M
namespace Go.Proofs.Ytnlbfomlfhigcaa.M
open Go.RowKit Go.Proofs.YtnlbfomlfhigcaaW.PrintWords Go.Proofs.YtnlbfomlfhigcaaW.PrintLast Go.Proofs.YtnlbfomlfhigcaaW.PrintMore

theorem u64w (n : Int) : IntKind.u64.wrap n = n % 18446744073709551616 := by simp [IntKind.wrap, IntKind.bits, IntKind.signed]
theorem wrap64_id {n : Int} (h : -9223372036854775808 ≤ n) (h' : n ≤ 9223372036854775807) : wrap64 n = n := by unfold wrap64; omega
theorem p64 : (2 : Nat) ^ 64 = 18446744073709551616 := by decide
theorem p63 : (2 : Nat) ^ 63 = 9223372036854775808 := by decide
theorem cast_pow (j : Nat) : ((2 : Int) ^ j) = ((2 ^ j : Nat) : Int) := by simp
theorem shl_nat (x j : Nat) (hj : j ≤ 64) : shl .u64 (x : Int) (j : Int) = ((x * 2 ^ j % 2 ^ 64 : Nat) : Int) := by
  unfold shl
  rw [u64w, Int.toNat_natCast, Nat.min_eq_left (show j ≤ IntKind.u64.bits from hj), cast_pow, p64]
  omega
theorem shr_nat (x j : Nat) (hj : j ≤ 64) : shr .u64 (x : Int) (j : Int) = ((x / 2 ^ j : Nat) : Int) := by
  unfold shr
  rw [Int.toNat_natCast, Nat.min_eq_left (show j ≤ IntKind.u64.bits from hj), cast_pow]
  simp
theorem wraps_u64 (n : Int) (h₀ : 0 ≤ n) (h₁ : n < 2 ^ 64) : IntKind.u64.wrap n = n := by rw [u64w]; omega
theorem and_nat (a b : Nat) (ha : a < 2 ^ 64) (hb : b < 2 ^ 64) : Go.bits .and .u64 (a : Int) (b : Int) = ((a &&& b : Nat) : Int) :=
  (bits_nat .u64 64 (by decide) wraps_u64 a b ha hb).1
theorem or_nat (a b : Nat) (ha : a < 2 ^ 64) (hb : b < 2 ^ 64) : Go.bits .or .u64 (a : Int) (b : Int) = ((a ||| b : Nat) : Int) :=
  (bits_nat .u64 64 (by decide) wraps_u64 a b ha hb).2
theorem and_mask (a j : Nat) (ha : a < 2 ^ 64) (hj : j ≤ 64) : Go.bits .and .u64 (a : Int) ((2 ^ j - 1 : Nat) : Int) = ((a % 2 ^ j : Nat) : Int) := by
  have : 2 ^ j ≤ 2 ^ 64 := Nat.pow_le_pow_right (by decide) hj
  rw [and_nat a _ ha (by omega), Nat.and_two_pow_sub_one_eq_mod]
/-- Bits laid side by side. -/
theorem or_add (a b i : Nat) (ha : a < 2 ^ 64) (hb : b < 2 ^ i) (hi : i ≤ 64) (hd : a % 2 ^ i = 0) : Go.bits .or .u64 (a : Int) (b : Int) = ((a + b : Nat) : Int) := by
  have : 2 ^ i ≤ 2 ^ 64 := Nat.pow_le_pow_right (by decide) hi
  rw [or_nat a b ha (by omega)]
  have hq : a = 2 ^ i * (a / 2 ^ i) := by
    have := Nat.div_add_mod a (2 ^ i)
    omega
  rw [hq, ← Nat.two_pow_add_eq_or_of_lt hb (a / 2 ^ i)]
/-- The bits turned. -/
theorem xor_all (a : Nat) (ha : a < 2 ^ 64) : Go.bits .xor .u64 18446744073709551615 (a : Int) = ((2 ^ 64 - 1 - a : Nat) : Int) := by
  have e : (18446744073709551615 : Int) = ((2 ^ 64 - 1 : Nat) : Int) := by decide
  unfold Go.bits
  rw [e]
  simp only [BitVec.ofInt_natCast]
  have h1 : BitVec.ofNat 64 (2 ^ 64 - 1) = BitVec.allOnes 64 := by rfl
  show IntKind.u64.wrap ((BitVec.ofNat 64 (2 ^ 64 - 1) ^^^ BitVec.ofNat 64 a).toNat : Nat) = _
  rw [h1, BitVec.allOnes_xor, BitVec.toNat_not, BitVec.toNat_ofNat, Nat.mod_eq_of_lt ha, u64w, p64]
  rw [p64] at ha
  omega
theorem mx_nat (a b : Nat) : mx (a : Int) (b : Int) = ((max a b : Nat) : Int) := by unfold mx; omega
theorem mn_nat (a b : Nat) : mn (a : Int) (b : Int) = ((min a b : Nat) : Int) := by unfold mn; omega
end Go.Proofs.Ytnlbfomlfhigcaa.M
namespace Go.Proofs.Ytnlbfomlfhigcaa.M
open Go.RowKit Go.Proofs.YtnlbfomlfhigcaaW.PrintWords Go.Proofs.YtnlbfomlfhigcaaW.PrintLast Go.Proofs.YtnlbfomlfhigcaaW.PrintMore Go.Proofs.Ytnlbfomlfhigcaa.Q

theorem is_yes {n : Nat} (h : Wd n) : shape_is.f (n : Int) = some true := by rcases h with rfl | rfl | rfl | rfl <;> decide +kernel
theorem is_no {n : Int} (h : ¬ (n = 8 ∨ n = 16 ∨ n = 32 ∨ n = 64)) : shape_is.f n = some false := by
  unfold shape_is.f
  rw [if_neg (by omega), if_neg (by omega), if_neg (by omega), if_neg (by omega)]
theorem of_yes {n : Nat} (h : Wd n) : shape_Of.f (n : Int) = some ((n : Int), ((2 ^ (n - 1) - 1 : Nat) : Int), 1, ((2 ^ (n - 1) : Nat) : Int), 4 * (n : Int) - 8, none) := by rcases h with rfl | rfl | rfl | rfl <;> decide +kernel
theorem of_no {n : Int} (h : ¬ (n = 8 ∨ n = 16 ∨ n = 32 ∨ n = 64)) : shape_Of.f n = some (0, 0, 0, 0, 0, some 2) := by
  unfold shape_Of.f
  rw [is_no h]
  rfl
theorem mask_yes {n : Nat} (h : Wd n) : lead_Mask.f (n : Int) = some (((2 ^ n - 1 : Nat) : Int), none) := by rcases h with rfl | rfl | rfl | rfl <;> decide +kernel
theorem fold_yes {n : Nat} (h : Wd n) {x : Nat} (hx : x < 2 ^ 64) : shape_Fold.f (n : Int) (x : Int) = some (((x % 2 ^ n : Nat) : Int), none) := by
  unfold shape_Fold.f
  rw [is_yes h]
  simp only [Option.bind_some, if_true]
  rw [mask_yes h]
  simp only [Option.bind_some]
  rw [and_mask x n hx (by have := h.bd; omega)]
theorem fold_no {n : Int} (h : ¬ (n = 8 ∨ n = 16 ∨ n = 32 ∨ n = 64)) (x : Int) : shape_Fold.f n x = some (0, some 2) := by
  unfold shape_Fold.f
  rw [is_no h]
  rfl
theorem high_eq {n : Nat} (h : Wd n) : 0 ≤ wrap64 ((n : Int) - 1) ∧ shl .u64 1 (wrap64 ((n : Int) - 1)) = ((2 ^ (n - 1) : Nat) : Int) := by rcases h with rfl | rfl | rfl | rfl <;> decide +kernel
/-- The kind of a folded pattern: Zero 0, Real 1, NaR 2. -/
def knd (n y : Nat) : Nat := if y = 0 then 0 else if y = 2 ^ (n - 1) then 2 else 1
theorem kind_yes {n : Nat} (h : Wd n) {x : Nat} (hx : x < 2 ^ 64) : shape_Kind.f (n : Int) (x : Int) = some (((knd n (x % 2 ^ n) : Nat) : Int), none) := by
  unfold shape_Kind.f
  rw [fold_yes h hx]
  simp only [Option.bind_some, Option.isNone_none, if_true]
  generalize x % 2 ^ n = y
  rw [if_pos (high_eq h).1, (high_eq h).2]
  unfold knd
  by_cases e : y = 0
  · rw [if_pos e, if_pos (by omega)]; rfl
  · rw [if_neg e, if_neg (by omega)]
    by_cases e2 : y = 2 ^ (n - 1)
    · rw [if_pos e2, if_pos (by rw [e2])]; rfl
    · rw [if_neg e2, if_neg (by omega)]; rfl
theorem kind_no {n : Int} (h : ¬ (n = 8 ∨ n = 16 ∨ n = 32 ∨ n = 64)) (x : Int) : shape_Kind.f n x = some (0, some 2) := by
  unfold shape_Kind.f
  rw [fold_no h]
  rfl
/-- The rank of a folded pattern. -/
def rk (n y : Nat) : Int := if y < 2 ^ (n - 1) then (y : Int) else (y : Int) - (2 ^ n : Nat)
theorem rank_yes {n : Nat} (h : Wd n) (x : Nat) : shape_Rank.f (n : Int) (x : Int) = some (rk n (x % 2 ^ n), none) := by
  unfold shape_Rank.f
  rw [is_yes h]
  simp only [Option.bind_some, if_true]
  unfold lead_Extend.f
  have e1 : ¬ (n : Int) < 1 := by have := h.bd; omega
  have e2 : ¬ (n : Int) > 64 := by have := h.bd; omega
  have e3 : wrap64 (64 - (n : Int)) = ((64 - n : Nat) : Int) := by have := h.bd; unfold wrap64; omega
  rw [if_neg e1, if_neg e2, e3, if_pos (by omega), shl_nat x (64 - n) (by omega)]
  simp only [Option.bind_some]
  congr 2
  unfold shr rk
  rw [Int.toNat_natCast, Nat.min_eq_left (show 64 - n ≤ IntKind.i64.bits from by show _ ≤ 64; omega), cast_pow]
  unfold wrap64
  rcases h with rfl | rfl | rfl | rfl <;> simp only [Nat.reduceSub, Nat.reducePow] <;> split <;> omega
theorem rank_no {n : Int} (h : ¬ (n = 8 ∨ n = 16 ∨ n = 32 ∨ n = 64)) (x : Int) : shape_Rank.f n x = some (0, some 2) := by
  unfold shape_Rank.f
  rw [is_no h]
  rfl
theorem ones_nat {j : Nat} (hj : j ≤ 64) : lead_ones.f (j : Int) = some ((2 ^ j - 1 : Nat) : Int) := by
  unfold lead_ones.f
  by_cases e : j = 64
  · subst e; decide
  · rw [if_neg (by omega), if_pos (by omega)]
    have : shl .u64 1 (j : Int) = ((2 ^ j : Nat) : Int) := by
      have h1 := shl_nat 1 j (by omega)
      rw [Nat.one_mul, Nat.mod_eq_of_lt (Nat.pow_lt_pow_right (by decide) (by omega))] at h1
      exact h1
    rw [this, u64w]
    have h2 : 2 ^ j < 2 ^ 64 := Nat.pow_lt_pow_right (by decide) (by omega)
    have h3 := pow_pos j
    rw [p64] at h2
    congr 1
    omega
theorem field_nat {x a j : Nat} (hx : x < 2 ^ 64) (ha : a ≤ 64) (hj : j ≤ 64 - a) : lead_Field.f (x : Int) (a : Int) (j : Int) = some (((x / 2 ^ a % 2 ^ j : Nat) : Int), none) := by
  unfold lead_Field.f
  have e : lead_field.f (a : Int) (j : Int) = some true := by
    unfold lead_field.f
    rw [if_pos (by omega), if_pos (by omega), if_pos (by omega)]
    congr 1
    simp only [decide_eq_true_eq]
    unfold wrap64
    omega
  rw [e]
  simp only [Option.bind_some, if_true]
  rw [if_pos (by omega), ones_nat (by omega), shr_nat x a ha]
  simp only [Option.bind_some]
  rw [and_mask _ j (Nat.lt_of_le_of_lt (Nat.div_le_self _ _) hx) (by omega)]
end Go.Proofs.Ytnlbfomlfhigcaa.M
namespace Go.Proofs.Ytnlbfomlfhigcaa.M

/-- y (L bits) begins with r ones, or r noughts, and not with one more of them. -/
def Runs (L y r : Nat) (ones : Bool) : Prop :=
  1 ≤ r ∧ r ≤ L ∧ (if ones then 2 ^ L ≤ y + 2 ^ (L - r) ∧ (r = L ∨ y + 2 ^ (L - r - 1) < 2 ^ L) else y < 2 ^ (L - r) ∧ (r = L ∨ 2 ^ (L - r - 1) ≤ y))

/-- What is left behind the run and its end: q, m bits. -/
theorem Runs.rest {L y r : Nat} {ones : Bool} (h : Runs L y r ones) (hy : 1 ≤ y) (hy2 : y < 2 ^ L) :
    (ones = true → y = 2 ^ L - 2 ^ (L - r) + y % 2 ^ (L - r - 1)) ∧ (ones = false → r < L ∧ y = 2 ^ (L - r - 1) + y % 2 ^ (L - r - 1)) := by
  obtain ⟨h1, h2, h3⟩ := h
  constructor
  · rintro rfl
    rw [if_pos rfl] at h3
    obtain ⟨h3, h4⟩ := h3
    have p1 := pow_le (show L - r ≤ L by omega)
    rcases h4 with h4 | h4
    · subst h4
      rw [Nat.sub_self, Nat.pow_zero] at h3
      simp only [Nat.sub_self, Nat.pow_zero, Nat.zero_sub, Nat.mod_one]
      omega
    · by_cases e : r = L
      · subst e
        rw [Nat.sub_self, Nat.pow_zero] at h3
        simp only [Nat.sub_self, Nat.pow_zero, Nat.zero_sub, Nat.mod_one]
        omega
      · have e1 : 2 ^ (L - r) = 2 * 2 ^ (L - r - 1) := by rw [← Nat.pow_succ']; exact congrArg (2 ^ ·) (by omega)
        have e2 : 2 ^ L = 2 ^ (r + 1) * 2 ^ (L - r - 1) := by rw [← Nat.pow_add]; exact congrArg (2 ^ ·) (by omega)
        have p2 := pow_pos (r + 1)
        have p3 : 2 ≤ 2 ^ (r + 1) := by rw [Nat.pow_succ]; have := pow_pos r; omega
        generalize 2 ^ (L - r - 1) = d at *
        generalize 2 ^ (r + 1) = a at *
        obtain ⟨a, rfl⟩ : ∃ b, a = b + 2 := ⟨a - 2, by omega⟩
        have e3 : (a + 2) * d = a * d + 2 * d := Nat.add_mul _ _ _
        have hq : y = a * d + (y - a * d) := by omega
        have hm : y % d = y - a * d := by
          rw [hq, Nat.add_comm (a * d), Nat.add_mul_mod_self_right, Nat.mod_eq_of_lt (by omega)]
          omega
        omega
  · rintro rfl
    simp only [Bool.false_eq_true, if_false] at h3
    obtain ⟨h3, h4⟩ := h3
    have hr : r ≠ L := by
      rintro rfl
      rw [Nat.sub_self, Nat.pow_zero] at h3
      omega
    refine ⟨by omega, ?_⟩
    rcases h4 with h4 | h4
    · exact absurd h4 hr
    · have e1 : 2 ^ (L - r) = 2 * 2 ^ (L - r - 1) := by rw [← Nat.pow_succ']; exact congrArg (2 ^ ·) (by omega)
      generalize 2 ^ (L - r - 1) = d at *
      have hq : y = (y - d) + 1 * d := by omega
      have hm : y % d = y - d := by
        rw [hq, Nat.add_mul_mod_self_right, Nat.mod_eq_of_lt (by omega)]
        omega
      omega
/-- The regime's number. -/
def reg (r : Nat) (ones : Bool) : Int := if ones then (r : Int) - 1 else -(r : Int)
theorem parse_dec {n y r : Nat} (hn : Wd n) (ones : Bool) (hy : 1 ≤ y) (hy2 : y < 2 ^ (n - 1)) (h : Runs (n - 1) y r ones) (m eb fb e fr : Nat)
    (hm : m = n - 1 - r - 1) (heb : eb = min m 2) (hfb : fb = m - eb) (he : e = y / 2 ^ fb % 2 ^ eb) (hfr : fr = y % 2 ^ fb) :
    Dec n y (4 * reg r ones + ((e * 2 ^ (2 - eb) : Nat) : Int)) (2 ^ 63 + fr * 2 ^ (63 - fb)) ∧ fb ≤ 61 ∧ e * 2 ^ (2 - eb) ≤ 3 ∧ fr < 2 ^ fb := by
  have hb := hn.bd
  have hR := h
  obtain ⟨h1, h2, _⟩ := h
  have hfr2 : fr < 2 ^ fb := by rw [hfr]; exact Nat.mod_lt _ (pow_pos _)
  have hem : y % 2 ^ m = e * 2 ^ fb + fr := by
    have : m = fb + eb := by omega
    rw [this, Nat.pow_add, Nat.mod_mul, he, hfr]
    rw [Nat.mul_comm]
    omega
  have hfb61 : fb ≤ 61 := by omega
  -- the exponent, and the tail of the string
  have hcase : (m = 0 ∧ eb = 0 ∧ fb = 0) ∨ (m = 1 ∧ eb = 1 ∧ fb = 0) ∨ (2 ≤ m ∧ eb = 2 ∧ fb = m - 2) := by omega
  have he3 : e * 2 ^ (2 - eb) ≤ 3 := by
    have : e < 2 ^ eb := by rw [he]; exact Nat.mod_lt _ (pow_pos _)
    rcases hcase with ⟨_, rfl, _⟩ | ⟨_, rfl, _⟩ | ⟨_, rfl, _⟩ <;> simp only [Nat.reduceSub, Nat.reducePow] at * <;> omega
  have htl : e * 2 ^ (2 - eb) * 2 ^ 127 + fr * 2 ^ (127 - fb) = (y % 2 ^ m) * 2 ^ (129 - m) := by
    rw [hem, Nat.add_mul]
    rcases hcase with ⟨rfl, rfl, rfl⟩ | ⟨rfl, rfl, rfl⟩ | ⟨hm2, rfl, rfl⟩
    · have : fr = 0 := by simpa using hfr2
      have : e = 0 := by rw [he, Nat.pow_zero, Nat.mod_one]
      subst_vars
      omega
    · have : fr = 0 := by simpa using hfr2
      rw [this]
      omega
    · rw [show 2 - 2 = 0 from rfl, Nat.pow_zero, Nat.mul_one, show 127 - (m - 2) = 129 - m by omega, Nat.mul_assoc, ← Nat.pow_add, show m - 2 + (129 - m) = 127 by omega]
  generalize hE : e * 2 ^ (2 - eb) = E at *
  have hf : fr * 2 ^ (63 - fb) < 2 ^ 63 := by
    have : fr * 2 ^ (63 - fb) < 2 ^ fb * 2 ^ (63 - fb) := Nat.mul_lt_mul_of_pos_right hfr2 (pow_pos _)
    rw [← Nat.pow_add, show fb + (63 - fb) = 63 by omega] at this
    exact this
  have hF : (2 ^ 63 + fr * 2 ^ (63 - fb)) * 2 ^ 64 - 2 ^ 127 = fr * 2 ^ (127 - fb) := by
    rw [Nat.add_mul, Nat.mul_assoc fr, ← Nat.pow_add, ← Nat.pow_add, show 63 + 64 = 127 from rfl, show 63 - fb + 64 = 127 - fb by omega]
    omega
  have htl2 : tl (4 * reg r ones + (E : Int)) ((2 ^ 63 + fr * 2 ^ (63 - fb)) * 2 ^ 64) = (y % 2 ^ m) * 2 ^ (129 - m) := by
    unfold tl
    rw [hF, show ((4 * reg r ones + (E : Int)) % 4).toNat = E by omega]
    exact htl
  have hs4 : (4 * reg r ones + (E : Int)) / 4 = reg r ones := by omega
  refine ⟨?_, hfb61, he3, hfr2⟩
  have hrest := hR.rest hy hy2
  unfold Dec
  refine ⟨by omega, by omega, ?_⟩
  cases ones with
  | true =>
    have hreg : reg r true = ((r - 1 : Nat) : Int) := by unfold reg; rw [if_pos rfl]; omega
    have hye := hrest.1 rfl
    rw [← hm] at hye
    have hEr : r = n - 1 → E = 0 := by
      intro hr
      have : m = 0 := by omega
      have : eb = 0 := by omega
      subst this
      rw [← hE, he, Nat.pow_zero, Nat.mod_one, Nat.zero_mul]
    refine ⟨by rw [hreg]; omega, ?_, ?_⟩
    · rw [hreg]
      by_cases hr : r = n - 1
      · rw [hEr hr]; omega
      · omega
    · rw [str_pos (hs4.trans hreg), htl2]
      have p1 := pow_le (show n - 1 - r ≤ n - 1 by omega)
      have e1 : 2 ^ 130 * 2 ^ (69 - (r - 1)) = 2 ^ (n - 1 - r) * 2 ^ (201 - n) := by rw [← Nat.pow_add, ← Nat.pow_add]; exact congrArg (2 ^ ·) (by omega)
      have e3 : 2 ^ (n - 1) * 2 ^ (201 - n) = 2 ^ 200 := (unit_eq hn).1
      have hmul : (y + 2 ^ (n - 1 - r)) * 2 ^ (201 - n) = (2 ^ (n - 1) + y % 2 ^ m) * 2 ^ (201 - n) := congrArg (· * 2 ^ (201 - n)) (by omega)
      rw [Nat.add_mul, Nat.add_mul, e3, ← e1] at hmul
      have e2 : y % 2 ^ m * 2 ^ (129 - m) * 2 ^ (69 - (r - 1)) = y % 2 ^ m * 2 ^ (201 - n) := by
        by_cases hr : r = n - 1
        · have : m = 0 := by omega
          subst this
          simp only [Nat.pow_zero, Nat.mod_one, Nat.zero_mul]
        · rw [Nat.mul_assoc, ← Nat.pow_add]; exact congrArg (fun z => y % 2 ^ m * 2 ^ z) (by omega)
      rw [e2]
      have := pos_room (show r - 1 ≤ 69 by omega)
      omega
  | false =>
    obtain ⟨hrl, hye⟩ := hrest.2 rfl
    rw [← hm] at hye
    have hreg : reg r false = -(r : Int) := rfl
    refine ⟨by rw [hreg]; omega, by rw [hreg]; omega, ?_⟩
    rw [str_neg (hs4.trans hreg) h1, htl2]
    have e1 : 2 ^ 129 * 2 ^ (70 - r) = 2 ^ m * 2 ^ (201 - n) := by rw [← Nat.pow_add, ← Nat.pow_add]; exact congrArg (2 ^ ·) (by omega)
    have e2 : y % 2 ^ m * 2 ^ (129 - m) * 2 ^ (70 - r) = y % 2 ^ m * 2 ^ (201 - n) := by
      rw [Nat.mul_assoc, ← Nat.pow_add]; exact congrArg (fun z => y % 2 ^ m * 2 ^ z) (by omega)
    rw [e1, e2, ← Nat.add_mul, ← hye]
end Go.Proofs.Ytnlbfomlfhigcaa.M
namespace Go.Proofs.Ytnlbfomlfhigcaa.M
open Go.RowKit Go.Proofs.YtnlbfomlfhigcaaW.PrintWords Go.Proofs.YtnlbfomlfhigcaaW.PrintLast Go.Proofs.YtnlbfomlfhigcaaW.PrintMore Go.Proofs.Ytnlbfomlfhigcaa.Q

theorem bitLen_zero : Lib.bitLen 0 = 0 := by decide +kernel
theorem bitLen_bd {z : Nat} (h : z < 2 ^ 64) (h0 : z ≠ 0) : 1 ≤ Lib.bitLen z ∧ Lib.bitLen z ≤ 64 ∧ 2 ^ (Lib.bitLen z - 1) ≤ z ∧ z < 2 ^ Lib.bitLen z := by
  obtain ⟨a, b, c⟩ := Lib.bitLenAux_bounds 64 z h h0
  exact ⟨a, Lib.bitLen_le z 64 (by omega) h, b, c⟩
theorem pow_lt_iff {a b : Nat} (h : 2 ^ a < 2 ^ b) : a < b := by
  by_cases c : a < b
  · exact c
  · have := pow_le (show b ≤ a by omega); omega
/-- The run of noughts that a number of L bits begins with. -/
theorem runs_zeros {L y : Nat} (h1 : 1 ≤ L) (h2 : L ≤ 63) (hy : y < 2 ^ (L - 1)) :
    Runs L y (min (64 - Lib.bitLen (y * 2 ^ (64 - L))) L) false := by
  by_cases h0 : y = 0
  · subst h0
    rw [Nat.zero_mul, bitLen_zero, Nat.min_eq_right (by omega)]
    refine ⟨h1, Nat.le_refl _, ?_⟩
    simp
  · have e1 : 2 ^ (L - 1) * 2 ^ (64 - L) = 2 ^ 63 := by rw [← Nat.pow_add]; exact congrArg (2 ^ ·) (by omega)
    have hz : y * 2 ^ (64 - L) < 2 ^ 63 := by rw [← e1]; exact Nat.mul_lt_mul_of_pos_right hy (pow_pos _)
    have hz1 : 2 ^ (64 - L) ≤ y * 2 ^ (64 - L) := Nat.le_mul_of_pos_left _ (by omega)
    have hp := pow_pos (64 - L)
    obtain ⟨b1, b2, b3, b4⟩ := bitLen_bd (z := y * 2 ^ (64 - L)) (by omega) (by omega)
    generalize Lib.bitLen (y * 2 ^ (64 - L)) = b at *
    have c1 : b - 1 < 63 := pow_lt_iff (Nat.lt_of_le_of_lt b3 hz)
    have c2 : 64 - L < b := pow_lt_iff (Nat.lt_of_le_of_lt hz1 b4)
    rw [Nat.min_eq_left (by omega)]
    refine ⟨by omega, by omega, ?_⟩
    rw [if_neg (by simp)]
    constructor
    · have e : 2 ^ b = 2 ^ (L - (64 - b)) * 2 ^ (64 - L) := by rw [← Nat.pow_add]; exact congrArg (2 ^ ·) (by omega)
      rw [e] at b4
      exact Nat.lt_of_mul_lt_mul_right b4
    · right
      have e : 2 ^ (b - 1) = 2 ^ (L - (64 - b) - 1) * 2 ^ (64 - L) := by rw [← Nat.pow_add]; exact congrArg (2 ^ ·) (by omega)
      rw [e] at b3
      exact Nat.le_of_mul_le_mul_right b3 hp
/-- The run of ones. -/
theorem runs_ones {L y : Nat} (h1 : 1 ≤ L) (h2 : L ≤ 63) (hy : 2 ^ (L - 1) ≤ y) (hy2 : y < 2 ^ L) :
    Runs L y (min (64 - Lib.bitLen (2 ^ 64 - 1 - y * 2 ^ (64 - L))) L) true := by
  have e0 : 2 ^ L * 2 ^ (64 - L) = 2 ^ 64 := by rw [← Nat.pow_add]; exact congrArg (2 ^ ·) (by omega)
  have e1 : 2 ^ (L - 1) * 2 ^ (64 - L) = 2 ^ 63 := by rw [← Nat.pow_add]; exact congrArg (2 ^ ·) (by omega)
  have hp := pow_pos (64 - L)
  have hmul : (2 ^ L - y) * 2 ^ (64 - L) = 2 ^ 64 - y * 2 ^ (64 - L) := by rw [Nat.sub_mul, e0]
  have hlo : 2 ^ 63 ≤ y * 2 ^ (64 - L) := by rw [← e1]; exact Nat.mul_le_mul_right _ hy
  have hhi : y * 2 ^ (64 - L) + 2 ^ (64 - L) ≤ 2 ^ 64 := by rw [← e0, ← Nat.succ_mul]; exact Nat.mul_le_mul_right _ hy2
  by_cases h0 : 2 ^ 64 - 1 - y * 2 ^ (64 - L) < 2 ^ (64 - L)
  · have hyl : 2 ^ L - y ≤ 1 := by
      by_cases c : 2 ^ L - y ≤ 1
      · exact c
      · have : 2 * 2 ^ (64 - L) ≤ (2 ^ L - y) * 2 ^ (64 - L) := Nat.mul_le_mul_right _ (by omega)
        omega
    have hb : Lib.bitLen (2 ^ 64 - 1 - y * 2 ^ (64 - L)) ≤ 64 - L := Lib.bitLen_le _ _ (by omega) h0
    rw [Nat.min_eq_right (by omega)]
    refine ⟨h1, Nat.le_refl _, ?_⟩
    rw [if_pos rfl, Nat.sub_self, Nat.pow_zero]
    omega
  · obtain ⟨b1, b2, b3, b4⟩ := bitLen_bd (z := 2 ^ 64 - 1 - y * 2 ^ (64 - L)) (by omega) (by omega)
    generalize Lib.bitLen (2 ^ 64 - 1 - y * 2 ^ (64 - L)) = b at *
    have c1 : b - 1 < 63 := pow_lt_iff (Nat.lt_of_le_of_lt b3 (by omega))
    have c2 : 64 - L < b := pow_lt_iff (Nat.lt_of_le_of_lt (by omega) b4)
    rw [Nat.min_eq_left (by omega)]
    refine ⟨by omega, by omega, ?_⟩
    rw [if_pos rfl]
    constructor
    · have e : 2 ^ b = 2 ^ (L - (64 - b)) * 2 ^ (64 - L) := by rw [← Nat.pow_add]; exact congrArg (2 ^ ·) (by omega)
      have : (2 ^ L - y) * 2 ^ (64 - L) ≤ 2 ^ (L - (64 - b)) * 2 ^ (64 - L) := by rw [← e]; omega
      have := Nat.le_of_mul_le_mul_right this hp
      omega
    · right
      have e : 2 ^ (b - 1) = 2 ^ (L - (64 - b) - 1) * 2 ^ (64 - L) := by rw [← Nat.pow_add]; exact congrArg (2 ^ ·) (by omega)
      have : 2 ^ (L - (64 - b) - 1) * 2 ^ (64 - L) < (2 ^ L - y) * 2 ^ (64 - L) := by rw [← e]; omega
      have := Nat.lt_of_mul_lt_mul_right this
      omega
/-- The printed Run. -/
theorem run_nat {L x : Nat} (h1 : 1 ≤ L) (h2 : L ≤ 63) (k : Nat) : ∃ r : Nat, Runs L (x % 2 ^ L) r (decide (2 ^ (L - 1) ≤ x % 2 ^ L)) ∧ lead_Run.f (k + 1) (x : Int) (L : Int) = some (decide (2 ^ (L - 1) ≤ x % 2 ^ L), (r : Int), none) := by
  have e0 : 2 ^ L * 2 ^ (64 - L) = 2 ^ 64 := by rw [← Nat.pow_add]; exact congrArg (2 ^ ·) (by omega)
  have e1 : 2 ^ (L - 1) * 2 ^ (64 - L) = 2 ^ 63 := by rw [← Nat.pow_add]; exact congrArg (2 ^ ·) (by omega)
  have hy : x % 2 ^ L < 2 ^ L := Nat.mod_lt _ (pow_pos _)
  have hx : x * 2 ^ (64 - L) % 2 ^ 64 = x % 2 ^ L * 2 ^ (64 - L) := by rw [← e0, Nat.mul_mod_mul_right]
  have hw : wrap64 (64 - (L : Int)) = ((64 - L : Nat) : Int) := by unfold wrap64; omega
  unfold lead_Run.f
  rw [if_neg (by omega)]
  have hd : decide ((L : Int) > 64) = false := by simp; omega
  rw [hd]
  simp only [lead_Run.j0]
  rw [if_neg (by simp), hw, if_pos (by omega), shl_nat x (64 - L) (by omega), hx]
  generalize x % 2 ^ L = y at *
  have hyz : y * 2 ^ (64 - L) < 2 ^ 64 := by rw [← e0]; exact Nat.mul_lt_mul_of_pos_right hy (pow_pos _)
  have hdiv : (((y * 2 ^ (64 - L) : Nat) : Int) / 9223372036854775808 = 1) ↔ 2 ^ (L - 1) ≤ y := by
    rw [← Nat.mul_le_mul_right_iff (pow_pos (64 - L)), e1, p63]
    rw [p64] at hyz
    omega
  by_cases c : 2 ^ (L - 1) ≤ y
  · have hr := runs_ones h1 h2 c hy
    refine ⟨_, by rw [decide_eq_true c]; exact hr, ?_⟩
    have hb := Lib.bitLen_le (2 ^ 64 - 1 - y * 2 ^ (64 - L)) 64 (by omega) (by omega)
    rw [if_pos (hdiv.2 c), xor_all _ hyz]
    unfold bits_LeadingZeros64.f
    rw [if_pos (by rw [p64]; omega), Int.toNat_natCast]
    simp only [Option.bind_some]
    rw [show (64 - ((Lib.bitLen (2 ^ 64 - 1 - y * 2 ^ (64 - L)) : Nat) : Int)) = ((64 - Lib.bitLen (2 ^ 64 - 1 - y * 2 ^ (64 - L)) : Nat) : Int) by omega, mn_nat, hdiv.2 c, decide_eq_true c]
    rfl
  · have hr := runs_zeros h1 h2 (show y < 2 ^ (L - 1) by omega)
    refine ⟨_, by rw [decide_eq_false c]; exact hr, ?_⟩
    have hb := Lib.bitLen_le (y * 2 ^ (64 - L)) 64 (by omega) (by omega)
    rw [if_neg (fun h => c (hdiv.1 h))]
    unfold bits_LeadingZeros64.f
    rw [if_pos (by rw [p64] at hyz; omega), Int.toNat_natCast]
    simp only [Option.bind_some]
    rw [show (64 - ((Lib.bitLen (y * 2 ^ (64 - L)) : Nat) : Int)) = ((64 - Lib.bitLen (y * 2 ^ (64 - L)) : Nat) : Int) by omega, mn_nat, decide_eq_false c, beq_eq_false_iff_ne.mpr (fun h => c (hdiv.1 h))]
theorem shl_i64_small {e j : Nat} (he : e ≤ 3) (hj : j ≤ 2) : shl .i64 (wrap64 (e : Int)) (j : Int) = ((e * 2 ^ j : Nat) : Int) := by
  unfold shl
  rw [IntKind.wrap_i64, Int.toNat_natCast, Nat.min_eq_left (show j ≤ IntKind.i64.bits from by show _ ≤ 64; omega), cast_pow, wrap64_id (by omega) (by omega)]
  have h1 : 2 ^ j ≤ 2 ^ 2 := pow_le hj
  have h2 : e * 2 ^ j ≤ 3 * 2 ^ 2 := Nat.mul_le_mul he h1
  rw [show ((e : Int) * ((2 ^ j : Nat) : Int)) = ((e * 2 ^ j : Nat) : Int) by simp]
  generalize e * 2 ^ j = z at *
  omega
theorem split_j2 {L x r m : Nat} (hL : L ≤ 63) (hx : x < 2 ^ 64) (h1 : 1 ≤ r) (h2 : r ≤ L) (hm : m = L - r - 1) (neg ones : Bool) (rg : Int) (k : Nat) :
    codec_Split.j2 (k + 1) (x : Int) (L : Int) neg ones (r : Int) rg 0 0 0 0 =
      some (neg, ones, (r : Int), rg, ((min m 2 : Nat) : Int), ((x / 2 ^ (m - min m 2) % 2 ^ (min m 2) * 2 ^ (2 - min m 2) : Nat) : Int), ((m - min m 2 : Nat) : Int), ((x % 2 ^ (m - min m 2) : Nat) : Int), none) := by
  have e1 : mx (wrap64 (wrap64 ((L : Int) - (r : Int)) - 1)) 0 = ((m : Nat) : Int) := by
    unfold mx wrap64
    split <;> omega
  have e2 : mn ((m : Nat) : Int) 2 = ((min m 2 : Nat) : Int) := mn_nat m 2
  have e3 : wrap64 ((m : Int) - ((min m 2 : Nat) : Int)) = ((m - min m 2 : Nat) : Int) := by unfold wrap64; omega
  have e4 : wrap64 (2 - ((min m 2 : Nat) : Int)) = ((2 - min m 2 : Nat) : Int) := by unfold wrap64; omega
  simp only [codec_Split.j2]
  rw [e1, e2, e3, e4, field_nat hx (by omega) (by omega)]
  simp only [Option.bind_some]
  rw [if_pos (by omega)]
  have e5 := field_nat (x := x) (a := 0) (j := m - min m 2) hx (by omega) (by omega)
  rw [Nat.pow_zero, Nat.div_one] at e5
  have e6 : lead_Field.f (x : Int) 0 ((m - min m 2 : Nat) : Int) = some (((x % 2 ^ (m - min m 2) : Nat) : Int), none) := e5
  rw [e6]
  simp only [Option.bind_some]
  have h3 : x / 2 ^ (m - min m 2) % 2 ^ (min m 2) < 2 ^ (min m 2) := Nat.mod_lt _ (pow_pos _)
  have h4 : 2 ^ (min m 2) ≤ 2 ^ 2 := pow_le (by omega)
  rw [shl_i64_small (by omega) (by omega)]
/-- The sign of a folded pattern, and its size. -/
def sgn (n y : Nat) : Bool := decide (2 ^ (n - 1) ≤ y)
def mag (n y : Nat) : Nat := if 2 ^ (n - 1) ≤ y then 2 ^ n - y else y
theorem two_half {n : Nat} (h : Wd n) : 2 ^ n = 2 * 2 ^ (n - 1) := by
  have := h.bd
  rw [← Nat.pow_succ']
  exact congrArg (2 ^ ·) (by omega)
theorem mag_bd {n y : Nat} (h : Wd n) (hy : y < 2 ^ n) (hk : knd n y = 1) : 1 ≤ mag n y ∧ mag n y < 2 ^ (n - 1) := by
  have e := two_half h
  unfold knd at hk
  split at hk
  · omega
  · split at hk
    · omega
    · unfold mag
      split <;> omega
/-- The parts of a real pattern, as the printed Split tells them. -/
theorem split_real {n : Nat} (hn : Wd n) {p : Nat} (hp : p < 2 ^ 64) (hk : knd n (p % 2 ^ n) = 1) : ∃ r m : Nat, ∃ ones : Bool, ∃ x : Nat, Runs (n - 1) (mag n (p % 2 ^ n)) r ones ∧ m = n - 1 - r - 1 ∧ x % 2 ^ (n - 1) = mag n (p % 2 ^ n) ∧
    ∀ k, codec_Split.f (k + 8) (n : Int) (p : Int) = some (sgn n (p % 2 ^ n), ones, (r : Int), reg r ones, ((min m 2 : Nat) : Int), ((x / 2 ^ (m - min m 2) % 2 ^ (min m 2) * 2 ^ (2 - min m 2) : Nat) : Int), ((m - min m 2 : Nat) : Int), ((x % 2 ^ (m - min m 2) : Nat) : Int), none) := by
  have hb := hn.bd
  have e2 := two_half hn
  have hy : p % 2 ^ n < 2 ^ n := Nat.mod_lt _ (pow_pos _)
  have hmb := mag_bd hn hy hk
  -- the number whose lowest bits are looked at
  obtain ⟨x, hx, hx64, hxs⟩ : ∃ x : Nat, x % 2 ^ (n - 1) = mag n (p % 2 ^ n) ∧ x < 2 ^ 64 ∧ (x : Int) = (if rk n (p % 2 ^ n) < 0 then IntKind.u64.wrap (-(p : Int)) else (p : Int)) := by
    by_cases c : 2 ^ (n - 1) ≤ p % 2 ^ n
    · have h1 : rk n (p % 2 ^ n) < 0 := by unfold rk; rw [if_neg (by omega)]; omega
      have h0 : p ≠ 0 := by rintro rfl; rw [Nat.zero_mod] at c; have := pow_pos (n - 1); omega
      refine ⟨2 ^ 64 - p, ?_, by omega, by rw [if_pos h1, u64w, p64]; rw [p64] at hp; omega⟩
      have hm : mag n (p % 2 ^ n) = 2 ^ n - p % 2 ^ n := by unfold mag; rw [if_pos c]
      rw [hm] at hmb ⊢
      have hd : 2 ^ (64 - n) * 2 ^ n = 2 ^ 64 := by rw [← Nat.pow_add]; exact congrArg (2 ^ ·) (by omega)
      have hdm := Nat.div_add_mod p (2 ^ n)
      have hq : p / 2 ^ n < 2 ^ (64 - n) := by rw [Nat.div_lt_iff_lt_mul (pow_pos _), hd]; exact hp
      have : 2 ^ 64 - p = (2 ^ n - p % 2 ^ n) + (2 * (2 ^ (64 - n) - 1 - p / 2 ^ n)) * 2 ^ (n - 1) := by
        rw [Nat.mul_comm 2, Nat.mul_assoc, ← e2, Nat.sub_mul, Nat.sub_mul, hd, Nat.one_mul, Nat.mul_comm (p / 2 ^ n)]
        have : 2 ^ n * (p / 2 ^ n) + 2 ^ n ≤ 2 ^ 64 := by rw [← hd, Nat.mul_comm (2 ^ (64 - n)), ← Nat.mul_succ]; exact Nat.mul_le_mul_left _ hq
        omega
      rw [this, Nat.add_mul_mod_self_right, Nat.mod_eq_of_lt hmb.2]
    · have h1 : ¬ rk n (p % 2 ^ n) < 0 := by unfold rk; rw [if_pos (by omega)]; omega
      refine ⟨p, ?_, hp, by rw [if_neg h1]⟩
      have hm : mag n (p % 2 ^ n) = p % 2 ^ n := by unfold mag; rw [if_neg c]
      rw [hm] at hmb ⊢
      have : p % 2 ^ (n - 1) = p % 2 ^ n % 2 ^ (n - 1) := by rw [e2, Nat.mul_comm, Nat.mod_mul_right_mod]
      rw [this, Nat.mod_eq_of_lt hmb.2]
  obtain ⟨r, hr, hrun⟩ := run_nat (L := n - 1) (x := x) (by omega) (by omega) 0
  rw [hx] at hr
  refine ⟨r, n - 1 - r - 1, _, x, hr, rfl, hx, fun k => ?_⟩
  obtain ⟨r', hr', hrun'⟩ := run_nat (L := n - 1) (x := x) (by omega) (by omega) (k + 5)
  have hrr : r' = r := by
    have a1 := hrun
    have : lead_Run.f (k + 5 + 1) (x : Int) ((n - 1 : Nat) : Int) = lead_Run.f (0 + 1) (x : Int) ((n - 1 : Nat) : Int) := by
      unfold lead_Run.f
      simp only [lead_Run.j0]
    rw [this, hrun] at hrun'
    simp only [Option.some.injEq, Prod.mk.injEq] at hrun'
    omega
  subst hrr
  unfold codec_Split.f
  rw [kind_yes hn hp, hk]
  simp only [Option.bind_some, Option.isNone_none, if_true]
  have hne : ((((1 : Nat) : Int)) != 1) = false := by decide
  rw [hne]
  simp only [codec_Split.j0]
  rw [if_neg (by simp), rank_yes hn]
  simp only [Option.bind_some]
  have hL : wrap64 ((n : Int) - 1) = ((n - 1 : Nat) : Int) := by unfold wrap64; omega
  have hsg : sgn n (p % 2 ^ n) = decide (rk n (p % 2 ^ n) < 0) := by
    unfold sgn rk
    by_cases c : 2 ^ (n - 1) ≤ p % 2 ^ n
    · rw [decide_eq_true c, if_neg (by omega)]; symm; simp only [decide_eq_true_eq]; omega
    · rw [decide_eq_false c, if_pos (by omega)]; symm; simp only [decide_eq_false_iff_not]; omega
  have key : ∀ ng : Bool, codec_Split.j1 (k + 8 - 1) (n : Int) (x : Int) ng false 0 0 0 0 0 0 = some (ng, decide (2 ^ (n - 1 - 1) ≤ x % 2 ^ (n - 1)), (r' : Int), reg r' (decide (2 ^ (n - 1 - 1) ≤ x % 2 ^ (n - 1))), ((min (n - 1 - r' - 1) 2 : Nat) : Int), ((x / 2 ^ (n - 1 - r' - 1 - min (n - 1 - r' - 1) 2) % 2 ^ (min (n - 1 - r' - 1) 2) * 2 ^ (2 - min (n - 1 - r' - 1) 2) : Nat) : Int), ((n - 1 - r' - 1 - min (n - 1 - r' - 1) 2 : Nat) : Int), ((x % 2 ^ (n - 1 - r' - 1 - min (n - 1 - r' - 1) 2) : Nat) : Int), none) := by
    intro ng
    rw [show k + 8 - 1 = k + 6 + 1 from rfl]
    simp only [codec_Split.j1]
    rw [hL, hrun']
    simp only [Option.bind_some]
    obtain ⟨g1, g2, _⟩ := hr
    have hw1 : wrap64 ((r' : Int) - 1) = (r' : Int) - 1 := wrap64_id (by omega) (by omega)
    have hw2 : wrap64 (-(r' : Int)) = -(r' : Int) := wrap64_id (by omega) (by omega)
    by_cases c : 2 ^ (n - 1 - 1) ≤ x % 2 ^ (n - 1)
    · rw [decide_eq_true c, if_pos rfl, hw1]
      exact split_j2 (by omega) hx64 g1 g2 rfl ng true _ (k + 5)
    · rw [decide_eq_false c, if_neg (by simp), hw2]
      exact split_j2 (by omega) hx64 g1 g2 rfl ng false _ (k + 5)
  rw [hsg]
  by_cases c : rk n (p % 2 ^ n) < 0
  · rw [if_pos c] at hxs ⊢
    rw [← hxs, decide_eq_true c, ← hx]
    exact key true
  · rw [if_neg c] at hxs ⊢
    rw [← hxs, decide_eq_false c, ← hx]
    exact key false
end Go.Proofs.Ytnlbfomlfhigcaa.M
namespace Go.Proofs.Ytnlbfomlfhigcaa.M
open Go.RowKit Go.Proofs.YtnlbfomlfhigcaaW.PrintWords Go.Proofs.YtnlbfomlfhigcaaW.PrintLast Go.Proofs.YtnlbfomlfhigcaaW.PrintMore Go.Proofs.Ytnlbfomlfhigcaa.Q

theorem decode_no {n : Int} (h : ¬ (n = 8 ∨ n = 16 ∨ n = 32 ∨ n = 64)) (x : Int) (k : Nat) : codec_Decode.f k n x = some (0, false, 0, 0, some 2) := by
  unfold codec_Decode.f
  rw [kind_no h]
  rfl
theorem knd_cases (n y : Nat) : (knd n y = 0 ∧ y = 0) ∨ knd n y = 1 ∨ (knd n y = 2 ∧ y = 2 ^ (n - 1)) := by
  unfold knd
  split
  · left; exact ⟨rfl, by assumption⟩
  · split
    · right; right; exact ⟨rfl, by assumption⟩
    · right; left; rfl
theorem decode_zero {n : Nat} (hn : Wd n) {p : Nat} (hp : p < 2 ^ 64) (hk : knd n (p % 2 ^ n) = 0) (k : Nat) : codec_Decode.f k (n : Int) (p : Int) = some (0, false, 0, 0, none) := by
  unfold codec_Decode.f
  rw [kind_yes hn hp, hk]
  rfl
theorem decode_nar {n : Nat} (hn : Wd n) {p : Nat} (hp : p < 2 ^ 64) (hk : knd n (p % 2 ^ n) = 2) (k : Nat) : codec_Decode.f k (n : Int) (p : Int) = some (2, false, 0, 0, none) := by
  unfold codec_Decode.f
  rw [kind_yes hn hp, hk]
  rfl
theorem decode_real {n : Nat} (hn : Wd n) {p : Nat} (hp : p < 2 ^ 64) (hk : knd n (p % 2 ^ n) = 1) : ∃ s : Int, ∃ f : Nat, Dec n (mag n (p % 2 ^ n)) s f ∧
    ∀ k, codec_Decode.f (k + 8) (n : Int) (p : Int) = some (1, sgn n (p % 2 ^ n), s, (f : Int), none) := by
  have hb := hn.bd
  have hmb := mag_bd hn (Nat.mod_lt p (pow_pos n)) hk
  obtain ⟨r, m, ones, x, hr, hm, hx, hs⟩ := split_real hn hp hk
  have hpd := parse_dec hn ones hmb.1 hmb.2 hr m (min m 2) (m - min m 2) _ _ hm rfl rfl rfl rfl
  have hmod : ∀ j, j ≤ n - 1 → x % 2 ^ j = mag n (p % 2 ^ n) % 2 ^ j := by
    intro j hj
    rw [← hx, show n - 1 = j + (n - 1 - j) by omega, Nat.pow_add, Nat.mod_mul_right_mod]
  have hfr : x % 2 ^ (m - min m 2) = mag n (p % 2 ^ n) % 2 ^ (m - min m 2) := hmod _ (by omega)
  have he : x / 2 ^ (m - min m 2) % 2 ^ (min m 2) = mag n (p % 2 ^ n) / 2 ^ (m - min m 2) % 2 ^ (min m 2) := by
    have := hmod (m - min m 2 + min m 2) (by omega)
    rw [Nat.pow_add] at this
    rw [← Nat.mod_mul_right_div_self, ← Nat.mod_mul_right_div_self, this]
  rw [← hfr, ← he] at hpd
  obtain ⟨hd, h61, h3, hf⟩ := hpd
  refine ⟨_, _, hd, fun k => ?_⟩
  unfold codec_Decode.f
  rw [kind_yes hn hp, hk]
  simp only [Option.bind_some, Option.isNone_none, if_true]
  rw [if_pos (by decide), hs k]
  simp only [Option.bind_some]
  generalize x / 2 ^ (m - min m 2) % 2 ^ (min m 2) * 2 ^ (2 - min m 2) = E at *
  generalize x % 2 ^ (m - min m 2) = fr at *
  generalize m - min m 2 = fb at *
  have hw : wrap64 (63 - (fb : Int)) = ((63 - fb : Nat) : Int) := by unfold wrap64; omega
  have hlt : fr * 2 ^ (63 - fb) < 2 ^ 63 := by
    have : fr * 2 ^ (63 - fb) < 2 ^ fb * 2 ^ (63 - fb) := Nat.mul_lt_mul_of_pos_right hf (pow_pos _)
    rw [← Nat.pow_add, show fb + (63 - fb) = 63 by omega] at this
    exact this
  rw [hw, if_pos (by omega), shl_nat fr (63 - fb) (by omega), Nat.mod_eq_of_lt (a := fr * 2 ^ (63 - fb)) (b := 2 ^ 64) (by omega)]
  have hor := or_add (2 ^ 63) (fr * 2 ^ (63 - fb)) 63 (by decide) hlt (by omega) (by decide)
  have e63 : (((2 ^ 63 : Nat)) : Int) = 9223372036854775808 := by decide
  rw [e63] at hor
  rw [hor]
  have hreg : -64 ≤ reg r ones ∧ reg r ones ≤ 64 := by
    obtain ⟨g1, g2, _⟩ := hr
    unfold reg
    split <;> omega
  have hsc : wrap64 (wrap64 (4 * reg r ones) + (E : Int)) = 4 * reg r ones + (E : Int) := by
    rw [wrap64_id (n := 4 * reg r ones) (by omega) (by omega), wrap64_id (by omega) (by omega)]
  rw [hsc]
  rfl
end Go.Proofs.Ytnlbfomlfhigcaa.M
namespace Go.Proofs.Ytnlbfomlfhigcaa.M
open Go.RowKit Go.Proofs.YtnlbfomlfhigcaaW.PrintWords Go.Proofs.YtnlbfomlfhigcaaW.PrintLast Go.Proofs.YtnlbfomlfhigcaaW.PrintMore Go.Proofs.Ytnlbfomlfhigcaa.Q

theorem pow_split {a b : Nat} (h : a ≤ b) : 2 ^ b = 2 ^ a * 2 ^ (b - a) := by rw [← Nat.pow_add]; exact congrArg (2 ^ ·) (by omega)
/-- Upwards, by fewer than 64 places. -/
theorem shl_lo {h l j : Nat} (hl : l < 2 ^ 64) (hj : j < 64) :
    (h * 2 ^ 64 + l) * 2 ^ j % 2 ^ 128 / 2 ^ 64 = h * 2 ^ j % 2 ^ 64 + l / 2 ^ (64 - j) ∧ (h * 2 ^ 64 + l) * 2 ^ j % 2 ^ 64 = l * 2 ^ j % 2 ^ 64 := by
  have e1 : (h * 2 ^ 64 + l) * 2 ^ j = l * 2 ^ j + h * 2 ^ j * 2 ^ 64 := by rw [Nat.add_mul, Nat.mul_right_comm]; omega
  constructor
  · rw [e1, show (2 : Nat) ^ 128 = 2 ^ 64 * 2 ^ 64 from rfl, Nat.mod_mul_right_div_self, Nat.add_mul_div_right _ _ (by decide)]
    have e2 : l * 2 ^ j / 2 ^ 64 = l / 2 ^ (64 - j) := by
      rw [pow_split (show j ≤ 64 by omega), Nat.mul_comm, Nat.mul_div_mul_left _ _ (pow_pos j)]
    rw [e2]
    have h1 : l / 2 ^ (64 - j) < 2 ^ j := by
      rw [Nat.div_lt_iff_lt_mul (pow_pos _), Nat.mul_comm, ← Nat.pow_add, show 64 - j + j = 64 by omega]
      exact hl
    have h2 : h * 2 ^ j % 2 ^ 64 = h % 2 ^ (64 - j) * 2 ^ j := by
      rw [pow_split (show j ≤ 64 by omega), Nat.mul_comm (2 ^ j), Nat.mul_mod_mul_right]
    have h3 : h % 2 ^ (64 - j) < 2 ^ (64 - j) := Nat.mod_lt _ (pow_pos _)
    have h4 : (h % 2 ^ (64 - j) + 1) * 2 ^ j ≤ 2 ^ (64 - j) * 2 ^ j := Nat.mul_le_mul_right _ h3
    rw [← Nat.pow_add, show 64 - j + j = 64 by omega, Nat.add_mul, Nat.one_mul, ← h2] at h4
    rw [Nat.add_mod, Nat.mod_eq_of_lt (show l / 2 ^ (64 - j) < 2 ^ 64 by omega), Nat.mod_eq_of_lt (by omega)]
    omega
  · rw [e1, Nat.add_mul_mod_self_right]
/-- Upwards, by 64 places or more. -/
theorem shl_hi {h l j : Nat} (hj : 64 ≤ j) : (h * 2 ^ 64 + l) * 2 ^ j % 2 ^ 128 / 2 ^ 64 = l * 2 ^ (j - 64) % 2 ^ 64 ∧ (h * 2 ^ 64 + l) * 2 ^ j % 2 ^ 64 = 0 := by
  have e : 2 ^ j = 2 ^ 64 * 2 ^ (j - 64) := pow_split hj
  have e1 : (h * 2 ^ 64 + l) * 2 ^ j = (l * 2 ^ (j - 64) + (h * 2 ^ (j - 64)) * 2 ^ 64) * 2 ^ 64 := by
    rw [e, Nat.add_mul, Nat.add_mul]
    have a1 : h * 2 ^ 64 * (2 ^ 64 * 2 ^ (j - 64)) = h * 2 ^ (j - 64) * 2 ^ 64 * 2 ^ 64 := by
      rw [Nat.mul_comm (2 ^ 64) (2 ^ (j - 64)), ← Nat.mul_assoc, Nat.mul_right_comm h]
    have a2 : l * (2 ^ 64 * 2 ^ (j - 64)) = l * 2 ^ (j - 64) * 2 ^ 64 := by rw [Nat.mul_comm (2 ^ 64), Nat.mul_assoc]
    rw [a1, a2]
    omega
  constructor
  · rw [e1, show (2 : Nat) ^ 128 = 2 ^ 64 * 2 ^ 64 from rfl, Nat.mod_mul_right_div_self, Nat.mul_div_cancel _ (by decide), Nat.add_mul_mod_self_right]
  · rw [e1, Nat.mul_mod_left]
theorem word_lt {x j : Nat} (h : x < 2 ^ 64) : x / 2 ^ j < 2 ^ 64 := Nat.lt_of_le_of_lt (Nat.div_le_self _ _) h
theorem shl_tw {h l j : Nat} (_ : h < 2 ^ 64) (hl : l < 2 ^ 64) (hj : j ≤ 128) : twin_shl.f (h : Int) (l : Int) (j : Int) =
    some ((((h * 2 ^ 64 + l) * 2 ^ j % 2 ^ 128 / 2 ^ 64 : Nat) : Int), (((h * 2 ^ 64 + l) * 2 ^ j % 2 ^ 64 : Nat) : Int)) := by
  unfold twin_shl.f
  by_cases c : 64 ≤ j
  · have hw : wrap64 ((j : Int) - 64) = ((j - 64 : Nat) : Int) := by unfold wrap64; omega
    rw [if_pos (by omega), hw, if_pos (by omega), shl_nat l (j - 64) (by omega), (shl_hi c).1, (shl_hi c).2]
    rfl
  · have hw : wrap64 (64 - (j : Int)) = ((64 - j : Nat) : Int) := by unfold wrap64; omega
    have hs := shl_lo (h := h) hl (show j < 64 by omega)
    rw [if_neg (by omega), if_pos (by omega), hw, if_pos (by omega), shl_nat h j (by omega), shl_nat l j (by omega), shr_nat l (64 - j) (by omega), hs.1, hs.2]
    have h1 : l / 2 ^ (64 - j) < 2 ^ j := by
      rw [Nat.div_lt_iff_lt_mul (pow_pos _), Nat.mul_comm, ← Nat.pow_add, show 64 - j + j = 64 by omega]
      exact hl
    have h2 : h * 2 ^ j % 2 ^ 64 % 2 ^ j = 0 := by
      rw [pow_split (show j ≤ 64 by omega), Nat.mod_mul_right_mod, Nat.mul_mod_left]
    rw [or_add _ _ j (Nat.mod_lt _ (by decide)) h1 (by omega) h2]
theorem shr_lo {h l j : Nat} (hl : l < 2 ^ 64) (hj : j < 64) :
    (h * 2 ^ 64 + l) / 2 ^ j / 2 ^ 64 = h / 2 ^ j ∧ (h * 2 ^ 64 + l) / 2 ^ j % 2 ^ 64 = h * 2 ^ (64 - j) % 2 ^ 64 + l / 2 ^ j := by
  have e1 : (h * 2 ^ 64 + l) / 2 ^ j = h * 2 ^ (64 - j) + l / 2 ^ j := by
    rw [pow_split (show j ≤ 64 by omega), Nat.mul_comm (2 ^ j), ← Nat.mul_assoc, Nat.add_comm, Nat.add_mul_div_right _ _ (pow_pos j), Nat.add_comm]
  constructor
  · rw [Nat.div_div_eq_div_mul, Nat.mul_comm (2 ^ j), ← Nat.div_div_eq_div_mul]
    congr 1
    omega
  · rw [e1]
    have h1 : l / 2 ^ j < 2 ^ (64 - j) := by
      rw [Nat.div_lt_iff_lt_mul (pow_pos _), ← Nat.pow_add, show 64 - j + j = 64 by omega]
      exact hl
    have h2 : h * 2 ^ (64 - j) % 2 ^ 64 = h % 2 ^ j * 2 ^ (64 - j) := by
      rw [pow_split (show j ≤ 64 by omega), Nat.mul_mod_mul_right]
    have h3 : h % 2 ^ j < 2 ^ j := Nat.mod_lt _ (pow_pos _)
    have h4 : (h % 2 ^ j + 1) * 2 ^ (64 - j) ≤ 2 ^ j * 2 ^ (64 - j) := Nat.mul_le_mul_right _ h3
    rw [← Nat.pow_add, show j + (64 - j) = 64 by omega, Nat.add_mul, Nat.one_mul, ← h2] at h4
    rw [Nat.add_mod, Nat.mod_eq_of_lt (show l / 2 ^ j < 2 ^ 64 from word_lt hl), Nat.mod_eq_of_lt (by omega)]
theorem shr_tw {h l j : Nat} (_ : h < 2 ^ 64) (hl : l < 2 ^ 64) (hj : j < 64) : twin_shr.f (h : Int) (l : Int) (j : Int) =
    some ((((h * 2 ^ 64 + l) / 2 ^ j / 2 ^ 64 : Nat) : Int), (((h * 2 ^ 64 + l) / 2 ^ j % 2 ^ 64 : Nat) : Int)) := by
  unfold twin_shr.f
  have hw : wrap64 (64 - (j : Int)) = ((64 - j : Nat) : Int) := by unfold wrap64; omega
  have hs := shr_lo (h := h) hl hj
  rw [if_neg (by omega), if_pos (by omega), hw, if_pos (by omega), shr_nat h j (by omega), shr_nat l j (by omega), shl_nat h (64 - j) (by omega), hs.1, hs.2]
  have h1 : l / 2 ^ j < 2 ^ (64 - j) := by
    rw [Nat.div_lt_iff_lt_mul (pow_pos _), ← Nat.pow_add, show 64 - j + j = 64 by omega]
    exact hl
  have h2 : h * 2 ^ (64 - j) % 2 ^ 64 % 2 ^ (64 - j) = 0 := by
    rw [pow_split (show 64 - j ≤ 64 by omega), Nat.mod_mul_right_mod, Nat.mul_mod_left]
  have h3 := or_add (h * 2 ^ (64 - j) % 2 ^ 64) (l / 2 ^ j) (64 - j) (Nat.mod_lt _ (by decide)) h1 (by omega) h2
  rw [or_nat _ _ (Nat.mod_lt _ (by decide)) (word_lt hl)] at h3
  rw [or_nat _ _ (word_lt hl) (Nat.mod_lt _ (by decide)), Nat.or_comm, h3]
theorem len_tw {h l : Nat} (hh : h < 2 ^ 64) (hl : l < 2 ^ 64) : ∃ b : Nat, b ≤ 128 ∧ twin_Len.f (h : Int) (l : Int) = some (b : Int) ∧
    ((h * 2 ^ 64 + l = 0 ∧ b = 0) ∨ (1 ≤ b ∧ 2 ^ (b - 1) ≤ h * 2 ^ 64 + l ∧ h * 2 ^ 64 + l < 2 ^ b)) := by
  unfold twin_Len.f bits_Len64.f
  rw [p64] at hh hl
  by_cases c : h = 0
  · subst c
    rw [if_neg (by omega), if_pos (by omega), Int.toNat_natCast]
    simp only [Option.bind_some]
    refine ⟨Lib.bitLen l, by have := Lib.bitLen_le l 64 (by omega) (by rw [p64]; omega); omega, rfl, ?_⟩
    by_cases c2 : l = 0
    · subst c2; left; exact ⟨rfl, bitLen_zero⟩
    · right
      obtain ⟨b1, b2, b3, b4⟩ := bitLen_bd (z := l) (by rw [p64]; omega) c2
      rw [Nat.zero_mul, Nat.zero_add]
      exact ⟨b1, b3, b4⟩
  · rw [if_pos (by omega), if_pos (by omega), Int.toNat_natCast]
    simp only [Option.bind_some]
    obtain ⟨b1, b2, b3, b4⟩ := bitLen_bd (z := h) (by rw [p64]; omega) c
    refine ⟨64 + Lib.bitLen h, by omega, ?_, .inr ⟨by omega, ?_, ?_⟩⟩
    · congr 1; unfold wrap64; omega
    · rw [show 64 + Lib.bitLen h - 1 = (Lib.bitLen h - 1) + 64 by omega, Nat.pow_add]
      generalize 2 ^ (Lib.bitLen h - 1) = q at *
      omega
    · rw [Nat.pow_add]
      generalize 2 ^ Lib.bitLen h = q at *
      omega
theorem Shl_tw {h l j : Nat} (hh : h < 2 ^ 64) (hl : l < 2 ^ 64) (hj : j ≤ 128) : ∃ b, twin_Shl.f (h : Int) (l : Int) (j : Int) =
    some ((((h * 2 ^ 64 + l) * 2 ^ j % 2 ^ 128 / 2 ^ 64 : Nat) : Int), (((h * 2 ^ 64 + l) * 2 ^ j % 2 ^ 64 : Nat) : Int), b, none) := by
  unfold twin_Shl.f
  have hm : mn (j : Int) 128 = (j : Int) := by unfold mn; rw [if_neg (by omega)]
  obtain ⟨b, _, hb, _⟩ := len_tw hh hl
  rw [if_neg (by omega), hm, shl_tw hh hl hj, hb]
  exact ⟨_, rfl⟩
theorem Shr_tw {h l j : Nat} (hh : h < 2 ^ 64) (hl : l < 2 ^ 64) (hj : j < 64) : twin_Shr.f (h : Int) (l : Int) (j : Int) =
    some ((((h * 2 ^ 64 + l) / 2 ^ j / 2 ^ 64 : Nat) : Int), (((h * 2 ^ 64 + l) / 2 ^ j % 2 ^ 64 : Nat) : Int), decide ((h * 2 ^ 64 + l) % 2 ^ j ≠ 0), none) := by
  unfold twin_Shr.f
  have hm : mn (j : Int) 128 = (j : Int) := by unfold mn; rw [if_neg (by omega)]
  have hW : h * 2 ^ 64 + l < 2 ^ 128 := by omega
  rw [if_neg (by omega), hm, shr_tw hh hl hj]
  simp only [Option.bind_some]
  generalize hWe : h * 2 ^ 64 + l = W at *
  have h1 : W / 2 ^ j < 2 ^ 128 := Nat.lt_of_le_of_lt (Nat.div_le_self _ _) hW
  rw [shl_tw (j := j) (by omega) (Nat.mod_lt _ (by decide)) (by omega)]
  simp only [Option.bind_some]
  have hd : W / 2 ^ j / 2 ^ 64 * 2 ^ 64 + W / 2 ^ j % 2 ^ 64 = W / 2 ^ j := by rw [Nat.mul_comm]; exact Nat.div_add_mod _ _
  rw [hd]
  have hdm := Nat.div_add_mod W (2 ^ j)
  rw [Nat.mul_comm] at hdm
  generalize W / 2 ^ j * 2 ^ j = X at *
  have hX : X % 2 ^ 128 = X := Nat.mod_eq_of_lt (by omega)
  rw [hX]
  congr 4
  by_cases c : W % 2 ^ j = 0
  · have e : X = h * 2 ^ 64 + l := by omega
    rw [decide_eq_false (by omega)]
    have a1 : X / 2 ^ 64 = h := by omega
    have a2 : X % 2 ^ 64 = l := by omega
    rw [a1, a2]
    simp
  · rw [decide_eq_true c]
    have : ¬ (X / 2 ^ 64 = h ∧ X % 2 ^ 64 = l) := by omega
    by_cases d : X / 2 ^ 64 = h
    · have : ((X % 2 ^ 64 : Nat) : Int) ≠ (l : Int) := by omega
      rw [beq_eq_false_iff_ne.mpr this]
      simp
    · have : ((X / 2 ^ 64 : Nat) : Int) ≠ (h : Int) := by omega
      rw [beq_eq_false_iff_ne.mpr this]
      simp
end Go.Proofs.Ytnlbfomlfhigcaa.M
namespace Go.Proofs.Ytnlbfomlfhigcaa.M
open Go.RowKit Go.Proofs.YtnlbfomlfhigcaaW.PrintWords Go.Proofs.YtnlbfomlfhigcaaW.PrintLast Go.Proofs.YtnlbfomlfhigcaaW.PrintMore Go.Proofs.Ytnlbfomlfhigcaa.Q

/-- The window's words of a string of 200 bits: its first 128. -/
def hiY (Y : Nat) : Int := ((Y / 2 ^ 72 / 2 ^ 64 : Nat) : Int)
def loY (Y : Nat) : Int := ((Y / 2 ^ 72 % 2 ^ 64 : Nat) : Int)
/-- Is there something behind the window? -/
def reY (b : Bool) (Y : Nat) : Bool := b || decide (Y % 2 ^ 72 ≠ 0)
set_option maxRecDepth 20000 in
theorem under_Y {Y m c : Nat} (b : Bool) (hY : Y < 2 ^ 200) (hm : m = 1 ∨ m = 2) (hc : c < 2 ^ m) (hd : Y % 2 ^ m = 0) :
    round_under.f (hiY Y) (loY Y) (c : Int) (m : Int) (reY b Y) = some (hiY (Y / 2 ^ m + c * 2 ^ (200 - m)), loY (Y / 2 ^ m + c * 2 ^ (200 - m)), reY b (Y / 2 ^ m + c * 2 ^ (200 - m))) := by
  unfold round_under.f hiY loY
  have hW : Y / 2 ^ 72 < 2 ^ 128 := by omega
  have hWd : Y / 2 ^ 72 / 2 ^ 64 * 2 ^ 64 + Y / 2 ^ 72 % 2 ^ 64 = Y / 2 ^ 72 := by rw [Nat.mul_comm]; exact Nat.div_add_mod _ _
  rw [Shr_tw (j := m) (by omega) (Nat.mod_lt _ (by decide)) (by omega), hWd]
  simp only [Option.bind_some]
  have hw : wrap64 (64 - (m : Int)) = ((64 - m : Nat) : Int) := by unfold wrap64; omega
  rw [hw, if_pos (by omega), shl_nat c (64 - m) (by omega)]
  have hcs : c * 2 ^ (64 - m) % 2 ^ 64 = c * 2 ^ (64 - m) := Nat.mod_eq_of_lt (by rcases hm with rfl | rfl <;> simp only [Nat.reduceSub] <;> omega)
  have hor : Go.bits .or .u64 ((Y / 2 ^ 72 / 2 ^ m / 2 ^ 64 : Nat) : Int) ((c * 2 ^ (64 - m) : Nat) : Int) = ((c * 2 ^ (64 - m) + Y / 2 ^ 72 / 2 ^ m / 2 ^ 64 : Nat) : Int) := by
    have h1 : Y / 2 ^ 72 / 2 ^ m / 2 ^ 64 < 2 ^ (64 - m) := by rcases hm with rfl | rfl <;> simp only [Nat.reduceSub] <;> omega
    have h2 : c * 2 ^ (64 - m) < 2 ^ 64 := by rcases hm with rfl | rfl <;> simp only [Nat.reduceSub] <;> omega
    have h3 := or_add (c * 2 ^ (64 - m)) (Y / 2 ^ 72 / 2 ^ m / 2 ^ 64) (64 - m) h2 h1 (by omega) (Nat.mul_mod_left _ _)
    rw [or_nat _ _ h2 (by have : 2 ^ (64 - m) ≤ 2 ^ 64 := pow_le (by omega); omega)] at h3
    rw [or_nat _ _ (by have : 2 ^ (64 - m) ≤ 2 ^ 64 := pow_le (by omega); omega) h2, Nat.or_comm, h3]
  rw [hcs, hor]
  have hC : c * 2 ^ (200 - m) = c * 2 ^ (64 - m) * 2 ^ 64 * 2 ^ 72 := by rw [Nat.mul_assoc, Nat.mul_assoc, ← Nat.pow_add, ← Nat.pow_add]; exact congrArg (fun z => c * 2 ^ z) (by omega)
  rw [hC]
  generalize c * 2 ^ (64 - m) = C at *
  have a1 : C + Y / 2 ^ 72 / 2 ^ m / 2 ^ 64 = (Y / 2 ^ m + C * 2 ^ 64 * 2 ^ 72) / 2 ^ 72 / 2 ^ 64 := by rcases hm with rfl | rfl <;> omega
  have a2 : Y / 2 ^ 72 / 2 ^ m % 2 ^ 64 = (Y / 2 ^ m + C * 2 ^ 64 * 2 ^ 72) / 2 ^ 72 % 2 ^ 64 := by rcases hm with rfl | rfl <;> omega
  have a3 : ((Y % 2 ^ 72 ≠ 0) ∨ (Y / 2 ^ 72 % 2 ^ m ≠ 0)) ↔ (Y / 2 ^ m + C * 2 ^ 64 * 2 ^ 72) % 2 ^ 72 ≠ 0 := by rcases hm with rfl | rfl <;> omega
  rw [a1, a2]
  unfold reY
  by_cases c1 : Y % 2 ^ 72 ≠ 0
  · rw [decide_eq_true c1, decide_eq_true (a3.1 (.inl c1)), Bool.or_true, if_pos rfl]
  · rw [decide_eq_false c1]
    by_cases c2 : Y / 2 ^ 72 % 2 ^ m ≠ 0
    · rw [decide_eq_true c2, decide_eq_true (a3.1 (.inr c2))]
      cases b <;> simp
    · have : ¬ (Y / 2 ^ m + C * 2 ^ 64 * 2 ^ 72) % 2 ^ 72 ≠ 0 := fun h => (a3.2 h).elim c1 c2
      rw [decide_eq_false c2, decide_eq_false this]
      cases b <;> simp
/-- What is left behind the cut. -/
def lft (n Y : Nat) (b : Bool) : Nat :=
  if 2 ^ (201 - n) < 2 * (Y % 2 ^ (201 - n)) + b.toNat then 3 else if 2 ^ (201 - n) = 2 * (Y % 2 ^ (201 - n)) + b.toNat then 2 else if 0 < 2 * (Y % 2 ^ (201 - n)) + b.toNat then 1 else 0
theorem left_val (k : Nat) (x : Nat) (b : Bool) : round_left.f (k + 1) (x : Int) b = some (((if 9223372036854775808 < x ∨ (x = 9223372036854775808 ∧ b = true) then 3 else if x = 9223372036854775808 then 2 else if 0 < x ∨ b = true then 1 else 0 : Nat) : Nat) : Int) := by
  unfold round_left.f
  simp only [round_left.j0]
  have i1 : ((x : Int) > 9223372036854775808) ↔ 9223372036854775808 < x := by omega
  have i2 : ((x : Int) = 9223372036854775808) ↔ x = 9223372036854775808 := by omega
  have i3 : ((x : Int) > 0) ↔ 0 < x := by omega
  simp only [i1, i2, i3]
  by_cases c1 : 9223372036854775808 < x
  · simp [c1]
  · by_cases c2 : x = 9223372036854775808
    · subst c2
      cases b <;> simp
    · by_cases c3 : 0 < x <;> cases b <;> simp [c1, c2, c3]
theorem j3_Y {n Y : Nat} (hn : Wd n) (b : Bool) (hY : Y < 2 ^ 200) (k : Nat) :
    round_Cut.j3 (k + 2) (n : Int) (reY b Y) (hiY Y) (loY Y) = some (((Y / 2 ^ (201 - n) : Nat) : Int), ((lft n Y b : Nat) : Int), none) := by
  have hb := hn.bd
  simp only [round_Cut.j3]
  have hw1 : wrap64 (65 - (n : Int)) = ((65 - n : Nat) : Int) := by unfold wrap64; omega
  have hw2 : wrap64 ((n : Int) - 1) = ((n - 1 : Nat) : Int) := by unfold wrap64; omega
  rw [hw1, hw2, if_pos (by omega)]
  unfold hiY loY
  have hW : Y / 2 ^ 72 < 2 ^ 128 := by omega
  have hWd : Y / 2 ^ 72 / 2 ^ 64 * 2 ^ 64 + Y / 2 ^ 72 % 2 ^ 64 = Y / 2 ^ 72 := by rw [Nat.mul_comm]; exact Nat.div_add_mod _ _
  obtain ⟨bb, hS⟩ := Shl_tw (h := Y / 2 ^ 72 / 2 ^ 64) (l := Y / 2 ^ 72 % 2 ^ 64) (j := n - 1) (by omega) (Nat.mod_lt _ (by decide)) (by omega)
  rw [hS, hWd]
  simp only [Option.bind_some]
  rw [shr_nat _ (65 - n) (by omega)]
  have a1 : Y / 2 ^ 72 / 2 ^ 64 / 2 ^ (65 - n) = Y / 2 ^ (201 - n) := by
    rw [Nat.div_div_eq_div_mul, Nat.div_div_eq_div_mul, ← Nat.pow_add, ← Nat.pow_add]
    exact congrArg (fun z => Y / 2 ^ z) (by omega)
  rw [a1]
  have hbb := toNat_le b
  have hbt : b.toNat = 1 ↔ b = true := by cases b <;> simp
  have key : ∀ r : Bool, (r = true ↔ (b = true ∨ Y % 2 ^ 72 ≠ 0 ∨ Y / 2 ^ 72 * 2 ^ (n - 1) % 2 ^ 64 ≠ 0)) →
      (if 9223372036854775808 < Y / 2 ^ 72 * 2 ^ (n - 1) % 2 ^ 128 / 2 ^ 64 ∨ (Y / 2 ^ 72 * 2 ^ (n - 1) % 2 ^ 128 / 2 ^ 64 = 9223372036854775808 ∧ r = true) then 3 else if Y / 2 ^ 72 * 2 ^ (n - 1) % 2 ^ 128 / 2 ^ 64 = 9223372036854775808 then 2 else if 0 < Y / 2 ^ 72 * 2 ^ (n - 1) % 2 ^ 128 / 2 ^ 64 ∨ r = true then 1 else 0 : Nat) = lft n Y b := by
    intro r hr
    unfold lft
    simp only [hr, ← hbt]
    generalize b.toNat = t at *
    have b1 : (9223372036854775808 < Y / 2 ^ 72 * 2 ^ (n - 1) % 2 ^ 128 / 2 ^ 64 ∨ (Y / 2 ^ 72 * 2 ^ (n - 1) % 2 ^ 128 / 2 ^ 64 = 9223372036854775808 ∧ (t = 1 ∨ Y % 2 ^ 72 ≠ 0 ∨ Y / 2 ^ 72 * 2 ^ (n - 1) % 2 ^ 64 ≠ 0))) ↔ 2 ^ (201 - n) < 2 * (Y % 2 ^ (201 - n)) + t := by
      rcases hn with rfl | rfl | rfl | rfl <;> simp only [Nat.reduceSub] <;> omega
    have b2 : ¬ (2 ^ (201 - n) < 2 * (Y % 2 ^ (201 - n)) + t) → (Y / 2 ^ 72 * 2 ^ (n - 1) % 2 ^ 128 / 2 ^ 64 = 9223372036854775808 ↔ 2 ^ (201 - n) = 2 * (Y % 2 ^ (201 - n)) + t) := by
      rcases hn with rfl | rfl | rfl | rfl <;> simp only [Nat.reduceSub] <;> omega
    have b3 : (0 < Y / 2 ^ 72 * 2 ^ (n - 1) % 2 ^ 128 / 2 ^ 64 ∨ (t = 1 ∨ Y % 2 ^ 72 ≠ 0 ∨ Y / 2 ^ 72 * 2 ^ (n - 1) % 2 ^ 64 ≠ 0)) ↔ 0 < 2 * (Y % 2 ^ (201 - n)) + t := by
      rcases hn with rfl | rfl | rfl | rfl <;> simp only [Nat.reduceSub] <;> omega
    by_cases c1 : 2 ^ (201 - n) < 2 * (Y % 2 ^ (201 - n)) + t
    · rw [if_pos (b1.2 c1), if_pos c1]
    · rw [if_neg (fun h => c1 (b1.1 h)), if_neg c1]
      by_cases c2 : 2 ^ (201 - n) = 2 * (Y % 2 ^ (201 - n)) + t
      · rw [if_pos ((b2 c1).2 c2), if_pos c2]
      · rw [if_neg (fun h => c2 ((b2 c1).1 h)), if_neg c2]
        by_cases c3 : 0 < 2 * (Y % 2 ^ (201 - n)) + t
        · rw [if_pos (b3.2 c3), if_pos c3]
        · rw [if_neg (fun h => c3 (b3.1 h)), if_neg c3]
  unfold reY
  by_cases d : Y / 2 ^ 72 * 2 ^ (n - 1) % 2 ^ 64 = 0
  · rw [if_pos (by omega), left_val, key (b || decide (Y % 2 ^ 72 ≠ 0)) (by cases b <;> simp [d])]
    rfl
  · rw [if_neg (by omega), left_val, key true (by simp [d])]
    rfl
/-- The string, behind i ones; behind i noughts. -/
def yo (t i : Nat) : Nat := t * 2 ^ (70 - i) + (2 ^ 200 - 2 ^ (200 - i))
def yz (t i : Nat) : Nat := t * 2 ^ (70 - i) + 2 ^ (199 - i)
theorem yo_step {t i : Nat} (ht : t < 2 ^ 129) (hi : i < 70) : yo t i < 2 ^ 200 ∧ yo t i % 2 ^ 1 = 0 ∧ yo t i / 2 ^ 1 + 1 * 2 ^ (200 - 1) = yo t (i + 1) := by
  unfold yo
  have e1 : 2 ^ (70 - i) = 2 * 2 ^ (70 - (i + 1)) := by rw [← Nat.pow_succ']; exact congrArg (2 ^ ·) (by omega)
  have e2 : 2 ^ (200 - i) = 2 * 2 ^ (200 - (i + 1)) := by rw [← Nat.pow_succ']; exact congrArg (2 ^ ·) (by omega)
  have e3 : 2 ^ (200 - i) = 2 ^ 130 * 2 ^ (70 - i) := by rw [← Nat.pow_add]; exact congrArg (2 ^ ·) (by omega)
  have e4 : t * 2 ^ (70 - i) < 2 ^ 129 * 2 ^ (70 - i) := Nat.mul_lt_mul_of_pos_right ht (pow_pos _)
  have e5 : 2 ^ (200 - i) ≤ 2 ^ 200 := pow_le (by omega)
  have hA : t * 2 ^ (70 - i) = 2 * (t * 2 ^ (70 - (i + 1))) := by rw [e1]; exact Nat.mul_left_comm _ _ _
  have e7 : 2 ^ 130 * 2 ^ (70 - i) = 2 * (2 ^ 129 * 2 ^ (70 - i)) := by rw [← Nat.mul_assoc, ← Nat.pow_succ']
  generalize t * 2 ^ (70 - i) = v1 at *
  generalize t * 2 ^ (70 - (i + 1)) = v2 at *
  generalize 2 ^ (200 - (i + 1)) = u at *
  generalize 2 ^ (200 - i) = u2 at *
  generalize 2 ^ (70 - i) = u3 at *
  clear e1
  omega
theorem yz_step {t i : Nat} (ht : t < 2 ^ 129) (hi : i < 70) : yz t i < 2 ^ 200 ∧ yz t i % 2 ^ 1 = 0 ∧ yz t i / 2 ^ 1 + 0 * 2 ^ (200 - 1) = yz t (i + 1) := by
  unfold yz
  have e1 : 2 ^ (70 - i) = 2 * 2 ^ (70 - (i + 1)) := by rw [← Nat.pow_succ']; exact congrArg (2 ^ ·) (by omega)
  have e2 : 2 ^ (199 - i) = 2 * 2 ^ (199 - (i + 1)) := by rw [← Nat.pow_succ']; exact congrArg (2 ^ ·) (by omega)
  have e3 : 2 ^ (199 - i) = 2 ^ 129 * 2 ^ (70 - i) := by rw [← Nat.pow_add]; exact congrArg (2 ^ ·) (by omega)
  have e4 : t * 2 ^ (70 - i) < 2 ^ 129 * 2 ^ (70 - i) := Nat.mul_lt_mul_of_pos_right ht (pow_pos _)
  have e5 : 2 ^ (199 - i) ≤ 2 ^ 199 := pow_le (by omega)
  have hA : t * 2 ^ (70 - i) = 2 * (t * 2 ^ (70 - (i + 1))) := by rw [e1]; exact Nat.mul_left_comm _ _ _
  rw [Nat.zero_mul, Nat.add_zero, Nat.pow_one, hA, e2]
  have e7 : 2 ^ 129 * 2 ^ (70 - i) ≤ 2 ^ 199 := by rw [← e3]; exact e5
  rw [hA] at e4
  generalize t * 2 ^ (70 - (i + 1)) = v2 at *
  generalize 2 ^ (199 - (i + 1)) = u at *
  generalize 2 ^ (70 - i) = u3 at *
  have e8 : 2 * u ≤ 2 ^ 199 := by rw [← e2]; exact e5
  clear e1 e2 e3 e5 hA
  generalize 2 ^ 129 * u3 = q at *
  omega
theorem yo_lt {t i : Nat} (ht : t < 2 ^ 129) (hi : i ≤ 70) : yo t i < 2 ^ 200 := by
  unfold yo
  have e3 : 2 ^ (200 - i) = 2 ^ 130 * 2 ^ (70 - i) := by rw [← Nat.pow_add]; exact congrArg (2 ^ ·) (by omega)
  have e4 : t * 2 ^ (70 - i) < 2 ^ 129 * 2 ^ (70 - i) := Nat.mul_lt_mul_of_pos_right ht (pow_pos _)
  have e5 : 2 ^ (200 - i) ≤ 2 ^ 200 := pow_le (by omega)
  have e7 : 2 ^ 130 * 2 ^ (70 - i) = 2 * (2 ^ 129 * 2 ^ (70 - i)) := by rw [← Nat.mul_assoc, ← Nat.pow_succ']
  generalize t * 2 ^ (70 - i) = v at *
  omega
theorem yz_lt {t i : Nat} (ht : t < 2 ^ 129) (hi : i ≤ 70) : yz t i < 2 ^ 200 := by
  unfold yz
  have e3 : 2 ^ (199 - i) = 2 ^ 129 * 2 ^ (70 - i) := by rw [← Nat.pow_add]; exact congrArg (2 ^ ·) (by omega)
  have e4 : t * 2 ^ (70 - i) < 2 ^ 129 * 2 ^ (70 - i) := Nat.mul_lt_mul_of_pos_right ht (pow_pos _)
  have e5 : 2 ^ (199 - i) ≤ 2 ^ 199 := pow_le (by omega)
  generalize t * 2 ^ (70 - i) = v at *
  omega
theorem l0_Y {n t r : Nat} (b : Bool) (ht : t < 2 ^ 129) (hr : r ≤ 66) (k : Nat) : ∀ d i : Nat, i + d = r →
    round_Cut.l0 (k + d + 1) (n : Int) (reY b (yo t i)) (r : Int) (i : Int) (hiY (yo t i)) (loY (yo t i)) = round_Cut.j3 k (n : Int) (reY b (yo t r)) (hiY (yo t r)) (loY (yo t r)) := by
  intro d
  induction d with
  | zero =>
    intro i hi
    rw [show k + 0 + 1 = k + 1 from rfl, round_Cut.l0, if_neg (by omega), show i = r by omega]
  | succ d ih =>
    intro i hi
    rw [show k + (d + 1) + 1 = (k + d + 1) + 1 by omega, round_Cut.l0]
    obtain ⟨s1, s2, s3⟩ := yo_step (i := i) ht (by omega)
    have hu := under_Y (m := 1) (c := 1) b s1 (.inl rfl) (by decide) s2
    rw [s3] at hu
    have hw : wrap64 ((i : Int) + 1) = ((i + 1 : Nat) : Int) := by unfold wrap64; omega
    have hu' : round_under.f (hiY (yo t i)) (loY (yo t i)) 1 1 (reY b (yo t i)) = some (hiY (yo t (i + 1)), loY (yo t (i + 1)), reY b (yo t (i + 1))) := hu
    rw [if_pos (by omega), hu', hw]
    simp only [Option.bind_some]
    exact ih (i + 1) (by omega)
theorem l1_Y {n t r : Nat} (b : Bool) (ht : t < 2 ^ 129) (hr : r ≤ 66) (k : Nat) : ∀ d i : Nat, i + d = r →
    round_Cut.l1 (k + d + 1) (n : Int) (reY b (yz t i)) (r : Int) (i : Int) (hiY (yz t i)) (loY (yz t i)) = round_Cut.j3 k (n : Int) (reY b (yz t r)) (hiY (yz t r)) (loY (yz t r)) := by
  intro d
  induction d with
  | zero =>
    intro i hi
    rw [show k + 0 + 1 = k + 1 from rfl, round_Cut.l1, if_neg (by omega), show i = r by omega]
  | succ d ih =>
    intro i hi
    rw [show k + (d + 1) + 1 = (k + d + 1) + 1 by omega, round_Cut.l1]
    obtain ⟨s1, s2, s3⟩ := yz_step (i := i) ht (by omega)
    have hu := under_Y (m := 1) (c := 0) b s1 (.inl rfl) (by decide) s2
    rw [s3] at hu
    have hw : wrap64 ((i : Int) + 1) = ((i + 1 : Nat) : Int) := by unfold wrap64; omega
    have hu' : round_under.f (hiY (yz t i)) (loY (yz t i)) 0 1 (reY b (yz t i)) = some (hiY (yz t (i + 1)), loY (yz t (i + 1)), reY b (yz t (i + 1))) := hu
    rw [if_pos (by omega), hu', hw]
    simp only [Option.bind_some]
    exact ih (i + 1) (by omega)
end Go.Proofs.Ytnlbfomlfhigcaa.M
namespace Go.Proofs.Ytnlbfomlfhigcaa.M
open Go.RowKit Go.Proofs.YtnlbfomlfhigcaaW.PrintWords Go.Proofs.YtnlbfomlfhigcaaW.PrintLast Go.Proofs.YtnlbfomlfhigcaaW.PrintMore Go.Proofs.Ytnlbfomlfhigcaa.Q

theorem and3 (s : Int) : IntKind.u64.wrap (Go.bits .and .i64 s 3) = ((s % 4).toNat : Int) := by
  have h : (BitVec.ofInt 64 s &&& BitVec.ofInt 64 3).toNat = (s % 4).toNat := by
    rw [BitVec.toNat_and, BitVec.toNat_ofInt, BitVec.toNat_ofInt]
    have : ((3 : Int) % ((2 ^ 64 : Nat) : Int)).toNat = 2 ^ 2 - 1 := by decide
    rw [this, Nat.and_two_pow_sub_one_eq_mod, p64]
    omega
  have e : Go.bits .and .i64 s 3 = IntKind.i64.wrap ((BitVec.ofInt 64 s &&& BitVec.ofInt 64 3).toNat : Nat) := rfl
  rw [e, h, IntKind.wrap_i64, u64w]
  have : (s % 4).toNat ≤ 3 := by omega
  omega
theorem str_yo {s : Int} {F k : Nat} (h : s / 4 = (k : Int)) (hk : k ≤ 69) : str s F = yo (tl s F) (k + 1) := by
  rw [str_pos h]
  unfold yo
  have e1 : 2 ^ 130 * 2 ^ (69 - k) = 2 ^ (200 - (k + 1)) := by rw [← Nat.pow_add]; exact congrArg (2 ^ ·) (by omega)
  rw [e1, show 70 - (k + 1) = 69 - k by omega, Nat.add_comm]
theorem str_yz {s : Int} {F r : Nat} (h : s / 4 = -(r : Int)) (hr : 1 ≤ r) (hr2 : r ≤ 70) : str s F = yz (tl s F) r := by
  rw [str_neg h hr]
  unfold yz
  have e1 : 2 ^ 129 * 2 ^ (70 - r) = 2 ^ (199 - r) := by rw [← Nat.pow_add]; exact congrArg (2 ^ ·) (by omega)
  rw [e1, Nat.add_comm]
theorem str_lt200 {s : Int} {F : Nat} (h1 : -270 ≤ s) (h2 : s ≤ 270) (hF : F < 2 ^ 128) : str s F < 2 ^ 200 := by
  by_cases h0 : 0 ≤ s / 4
  · obtain ⟨k, hk⟩ := Int.eq_ofNat_of_zero_le h0
    rw [str_yo hk (by omega)]
    exact yo_lt (tl_lt hF) (by omega)
  · obtain ⟨r, hr⟩ : ∃ r : Nat, s / 4 = -(r : Int) := ⟨(-(s / 4)).toNat, by omega⟩
    rw [str_yz hr (by omega) (by omega)]
    exact yz_lt (tl_lt hF) (by omega)
theorem y_e1 (X e : Nat) : X * 2 ^ 73 / 2 ^ 2 + e * 2 ^ (200 - 2) = (e * 2 ^ 127 + X) * 2 ^ 71 := by omega
theorem y_half (t : Nat) : t * 2 ^ 71 / 2 ^ 1 = t * 2 ^ 70 := by omega
theorem y_e2 (t : Nat) : t * 2 ^ 71 / 2 ^ 1 + 0 * 2 ^ (200 - 1) = yo t 0 := by
  rw [y_half, Nat.zero_mul]
  unfold yo
  rw [Nat.sub_zero, Nat.sub_zero, Nat.sub_self]
theorem y_e3 (t : Nat) : t * 2 ^ 71 / 2 ^ 1 + 1 * 2 ^ (200 - 1) = yz t 0 := by
  rw [y_half, Nat.one_mul]
  rfl
theorem y_lt (t : Nat) (h : t < 2 ^ 129) : t * 2 ^ 71 < 2 ^ 200 ∧ t * 2 ^ 71 % 2 ^ 1 = 0 := by omega
theorem y_lt0 (X : Nat) (h : X < 2 ^ 127) : X * 2 ^ 73 < 2 ^ 200 ∧ X * 2 ^ 73 % 2 ^ 2 = 0 ∧ X * 2 ^ 73 % 2 ^ 72 = 0 := by omega
theorem under_end0 (b : Bool) {t : Nat} (h : t < 2 ^ 129) : round_under.f (hiY (t * 2 ^ 71)) (loY (t * 2 ^ 71)) 0 1 (reY b (t * 2 ^ 71)) = some (hiY (yo t 0), loY (yo t 0), reY b (yo t 0)) := by
  have hu := under_Y (Y := t * 2 ^ 71) (m := 1) (c := 0) b (y_lt t h).1 (.inl rfl) (by decide) (y_lt t h).2
  rw [y_e2] at hu
  exact hu
theorem under_end1 (b : Bool) {t : Nat} (h : t < 2 ^ 129) : round_under.f (hiY (t * 2 ^ 71)) (loY (t * 2 ^ 71)) 1 1 (reY b (t * 2 ^ 71)) = some (hiY (yz t 0), loY (yz t 0), reY b (yz t 0)) := by
  have hu := under_Y (Y := t * 2 ^ 71) (m := 1) (c := 1) b (y_lt t h).1 (.inl rfl) (by decide) (y_lt t h).2
  rw [y_e3] at hu
  exact hu
theorem under_exp (b : Bool) {X e : Nat} (h : X < 2 ^ 127) (he : e < 2 ^ 2) : round_under.f (hiY (X * 2 ^ 73)) (loY (X * 2 ^ 73)) (e : Int) 2 b = some (hiY ((e * 2 ^ 127 + X) * 2 ^ 71), loY ((e * 2 ^ 127 + X) * 2 ^ 71), reY b ((e * 2 ^ 127 + X) * 2 ^ 71)) := by
  have h0 := y_lt0 X h
  have hu := under_Y (Y := X * 2 ^ 73) (m := 2) (c := e) b h0.1 (.inr rfl) he h0.2.1
  rw [y_e1] at hu
  have hR : reY b (X * 2 ^ 73) = b := by
    unfold reY
    rw [decide_eq_false (by rw [h0.2.2]; simp), Bool.or_false]
  rw [hR] at hu
  exact hu
theorem shl_first {h l : Nat} (hh : 2 ^ 63 ≤ h) (hh2 : h < 2 ^ 64) (hl : l < 2 ^ 64) : ∃ bb, twin_Shl.f (h : Int) (l : Int) 1 = some (hiY ((h * 2 ^ 64 + l - 2 ^ 127) * 2 ^ 73), loY ((h * 2 ^ 64 + l - 2 ^ 127) * 2 ^ 73), bb, none) := by
  obtain ⟨bb, hS⟩ := Shl_tw (j := 1) hh2 hl (by omega)
  refine ⟨bb, ?_⟩
  unfold hiY loY
  rw [show ((h * 2 ^ 64 + l) * 2 ^ 1 % 2 ^ 128 / 2 ^ 64) = ((h * 2 ^ 64 + l - 2 ^ 127) * 2 ^ 73 / 2 ^ 72 / 2 ^ 64) by omega, show ((h * 2 ^ 64 + l) * 2 ^ 1 % 2 ^ 64) = ((h * 2 ^ 64 + l - 2 ^ 127) * 2 ^ 73 / 2 ^ 72 % 2 ^ 64) by omega] at hS
  exact hS
/-- The run of ones, laid. -/
theorem lay_ones {n q : Nat} (hn : Wd n) (b : Bool) {s : Int} {F : Nat} (hF : F < 2 ^ 128) (hq : s / 4 = (q : Int)) (hq2 : q ≤ 65) (k : Nat) :
    round_Cut.l0 (k + 79) (n : Int) (reY b (yo (tl s F) 0)) (wrap64 ((q : Int) + 1)) 0 (hiY (yo (tl s F) 0)) (loY (yo (tl s F) 0)) = some (((str s F / 2 ^ (201 - n) : Nat) : Int), ((lft n (str s F) b : Nat) : Int), none) := by
  have ht := tl_lt (s := s) hF
  have hw : wrap64 ((q : Int) + 1) = ((q + 1 : Nat) : Int) := by unfold wrap64; omega
  have hl0 := l0_Y (n := n) (r := q + 1) b ht (by omega) (k + 77 - q) (q + 1) 0 (Nat.zero_add _)
  rw [show k + 77 - q + (q + 1) + 1 = k + 79 by omega] at hl0
  rw [hw]
  refine Eq.trans hl0 ?_
  rw [← str_yo hq (by omega), show k + 77 - q = (k + 75 - q) + 2 by omega]
  exact j3_Y hn b (str_lt200 (by omega) (by omega) hF) _
theorem lay_zeros {n r : Nat} (hn : Wd n) (b : Bool) {s : Int} {F : Nat} (hF : F < 2 ^ 128) (hr : s / 4 = -(r : Int)) (hr1 : 1 ≤ r) (hr2 : r ≤ 65) (k : Nat) :
    round_Cut.l1 (k + 79) (n : Int) (reY b (yz (tl s F) 0)) (wrap64 (-(-(r : Int)))) 0 (hiY (yz (tl s F) 0)) (loY (yz (tl s F) 0)) = some (((str s F / 2 ^ (201 - n) : Nat) : Int), ((lft n (str s F) b : Nat) : Int), none) := by
  have ht := tl_lt (s := s) hF
  have hw : wrap64 (-(-(r : Int))) = (r : Int) := by unfold wrap64; omega
  have hl1 := l1_Y (n := n) (r := r) b ht (by omega) (k + 78 - r) r 0 (Nat.zero_add _)
  rw [show k + 78 - r + r + 1 = k + 79 by omega] at hl1
  rw [hw]
  refine Eq.trans hl1 ?_
  rw [← str_yz hr (by omega) (by omega), show k + 78 - r = (k + 76 - r) + 2 by omega]
  exact j3_Y hn b (str_lt200 (by omega) (by omega) hF) _
end Go.Proofs.Ytnlbfomlfhigcaa.M
namespace Go.Proofs.Ytnlbfomlfhigcaa.M
open Go.RowKit Go.Proofs.YtnlbfomlfhigcaaW.PrintWords Go.Proofs.YtnlbfomlfhigcaaW.PrintLast Go.Proofs.YtnlbfomlfhigcaaW.PrintMore Go.Proofs.Ytnlbfomlfhigcaa.Q

/-- The string, laid bit by bit. -/
theorem j0_str {n : Nat} (hn : Wd n) (neg b : Bool) {s : Int} {h l : Nat} (hh : 2 ^ 63 ≤ h) (hh2 : h < 2 ^ 64) (hl : l < 2 ^ 64) (h1 : 8 - 4 * (n : Int) ≤ s) (h2 : s < 4 * (n : Int) - 8) (k : Nat) :
    round_Cut.j0 (k + 80) (n : Int) 1 neg s (h : Int) (l : Int) b = some (((str s (h * 2 ^ 64 + l) / 2 ^ (201 - n) : Nat) : Int), ((lft n (str s (h * 2 ^ 64 + l)) b : Nat) : Int), none) := by
  have hb := hn.bd
  have hF : h * 2 ^ 64 + l < 2 ^ 128 := by omega
  have hX : h * 2 ^ 64 + l - 2 ^ 127 < 2 ^ 127 := by omega
  obtain ⟨bb, hS⟩ := shl_first hh hh2 hl
  have hu1 := under_exp (e := (s % 4).toNat) b hX (by omega)
  have ht := tl_lt (s := s) hF
  have e1 : (s % 4).toNat * 2 ^ 127 + (h * 2 ^ 64 + l - 2 ^ 127) = tl s (h * 2 ^ 64 + l) := rfl
  rw [e1] at hu1
  rw [show k + 80 = (k + 79) + 1 from rfl, round_Cut.j0, hS, and3]
  simp only [Option.bind_some]
  rw [hu1]
  simp only [Option.bind_some]
  clear hu1 hS e1 hX
  by_cases h0 : 0 ≤ s / 4
  · obtain ⟨q, hq⟩ := Int.eq_ofNat_of_zero_le h0
    rw [if_pos h0, under_end0 b ht, hq, Option.bind_some]
    exact lay_ones hn b hF hq (by omega) k
  · obtain ⟨r, hr⟩ : ∃ r : Nat, s / 4 = -(r : Int) := ⟨(-(s / 4)).toNat, by omega⟩
    rw [if_neg h0, under_end1 b ht, hr, Option.bind_some]
    exact lay_zeros hn b hF hr (by omega) (by omega) k
theorem tl_least {s : Int} (h : s % 4 = 0) : tl s (2 ^ 127) = 0 := by
  unfold tl
  rw [h, Nat.sub_self]
  rfl
theorem held_val (s : Int) : round_held.f s = some (if s < -1099511627776 then -1099511627776 else if 1099511627776 < s then 1099511627776 else s) := by
  unfold round_held.f mx mn
  congr 1
  split <;> split <;> (try split) <;> (try split) <;> omega
theorem sound_real (k : Nat) (neg b : Bool) {s : Int} {h l : Nat} (hh : 2 ^ 63 ≤ h) (hh2 : h < 2 ^ 64) (h1 : -1099511627776 ≤ s) (h2 : s ≤ 1099511627776) : round_sound.f (k + 1) 1 neg s (h : Int) (l : Int) b = some true := by
  unfold round_sound.f
  rw [if_neg (by decide), round_sound.j0, if_neg (by decide), if_pos rfl, if_pos (by rw [p63] at hh; rw [p64] at hh2; omega), held_val, if_neg (by omega), if_neg (by omega)]
  simp
theorem sound_zero (k : Nat) : round_sound.f (k + 1) 0 false 0 0 0 false = some true := by
  unfold round_sound.f
  rw [if_pos rfl, round_sound.j0, if_pos (by decide)]
  rfl
theorem sound_nar (k : Nat) : round_sound.f (k + 1) 2 false 0 0 0 false = some true := by
  unfold round_sound.f
  rw [if_neg (by decide), round_sound.j0, if_pos (by decide)]
  rfl
/-- lft and the cut are rnd. -/
theorem rnd_lft {n Y : Nat} (hn : Wd n) (b : Bool) : rnd (2 ^ (202 - n)) (2 * Y + b.toNat) = if lft n Y b = 3 ∨ (lft n Y b = 2 ∧ Y / 2 ^ (201 - n) % 2 = 1) then Y / 2 ^ (201 - n) + 1 else Y / 2 ^ (201 - n) := by
  have hbb := toNat_le b
  rw [(unit_eq hn).2]
  have hp := pow_pos (201 - n)
  have hd : (2 * Y + b.toNat) / (2 * 2 ^ (201 - n)) = Y / 2 ^ (201 - n) := by
    rw [← Nat.div_div_eq_div_mul]
    congr 1
    omega
  have hm : (2 * Y + b.toNat) % (2 * 2 ^ (201 - n)) = 2 * (Y % 2 ^ (201 - n)) + b.toNat := by
    have a1 := Nat.div_add_mod (2 * Y + b.toNat) (2 * 2 ^ (201 - n))
    have a2 := Nat.div_add_mod Y (2 ^ (201 - n))
    rw [hd, Nat.mul_assoc] at a1
    omega
  unfold rnd lft
  rw [hd, hm]
  generalize 2 * (Y % 2 ^ (201 - n)) + b.toNat = z
  generalize Y / 2 ^ (201 - n) = q
  generalize 2 ^ (201 - n) = d
  by_cases c1 : d < z
  · rw [if_pos (.inl (by omega)), if_pos c1, if_pos (.inl rfl)]
  · rw [if_neg c1]
    by_cases c2 : d = z
    · rw [if_pos c2]
      by_cases c3 : q % 2 = 1
      · rw [if_pos (.inr ⟨by omega, c3⟩), if_pos (.inr ⟨rfl, c3⟩)]
      · rw [if_neg (by omega), if_neg (by omega)]
    · rw [if_neg c2, if_neg (by omega)]
      split <;> rw [if_neg (by omega)]
/-- A sign laid on a pattern of n bits. -/
def sg (n : Nat) (neg : Bool) (p : Nat) : Nat := if neg then 2 ^ n - p else p
theorem fold_sg {n : Nat} (hn : Wd n) (neg : Bool) {p : Nat} (h1 : 1 ≤ p) (h2 : p < 2 ^ (n - 1)) :
    (if neg = true then (shape_Fold.f (n : Int) (IntKind.u64.wrap (-(p : Int)))).bind (fun bt => some (bt.1, bt.2)) else (shape_Fold.f (n : Int) (p : Int)).bind (fun bt => some (bt.1, bt.2))) = some (((sg n neg p : Nat) : Int), none) := by
  have hb := hn.bd
  have e := two_half hn
  have hn64 : 2 ^ n ≤ 2 ^ 64 := pow_le hb.2
  cases neg with
  | true =>
    rw [if_pos rfl, show IntKind.u64.wrap (-(p : Int)) = ((2 ^ 64 - p : Nat) : Int) by rw [u64w, p64]; rw [p64] at hn64; omega, fold_yes hn (by omega)]
    have : (2 ^ 64 - p) % 2 ^ n = 2 ^ n - p := by
      rw [pow_split (show n ≤ 64 from hb.2)]
      have hq := pow_pos (64 - n)
      generalize 2 ^ (64 - n) = q at *
      obtain ⟨q, rfl⟩ : ∃ z, q = z + 1 := ⟨q - 1, by omega⟩
      rw [Nat.mul_succ, show 2 ^ n * q + 2 ^ n - p = (2 ^ n - p) + 2 ^ n * q by omega, Nat.add_mul_mod_self_left, Nat.mod_eq_of_lt (by omega)]
    rw [this]
    rfl
  | false =>
    rw [if_neg (by decide), fold_yes hn (by omega), Nat.mod_eq_of_lt (by omega)]
    rfl
/-- A real, rounded. -/
theorem round_real {n : Nat} (hn : Wd n) (neg b : Bool) {s : Int} {h l : Nat} (hh : 2 ^ 63 ≤ h) (hh2 : h < 2 ^ 64) (hl : l < 2 ^ 64) (h1 : -1099511627776 ≤ s) (h2 : s ≤ 1099511627776) (k : Nat) :
    round_Round.f (k + 80) (n : Int) 1 neg s (h : Int) (l : Int) b = some (((sg n neg (rpos n s (h * 2 ^ 64 + l) b) : Nat) : Int), none) := by
  have hb := hn.bd
  have hF : 2 ^ 127 ≤ h * 2 ^ 64 + l ∧ h * 2 ^ 64 + l < 2 ^ 128 := by omega
  have hR := rpos_bd hn s b hF.2
  have hsn : wrap64 (-(4 * (n : Int) - 8)) = 8 - 4 * (n : Int) := by unfold wrap64; omega
  have hq2 : 2 ≤ 2 ^ (n - 1) := by have : 2 ^ 1 ≤ 2 ^ (n - 1) := pow_le (by omega); omega
  -- what Cut answers
  have hcut : ∃ P L : Nat, round_Cut.f (k + 80) (n : Int) 1 neg s (h : Int) (l : Int) b = some ((P : Int), (L : Int), none) ∧ P < 2 ^ (n - 1) ∧ rpos n s (h * 2 ^ 64 + l) b = if L = 3 ∨ (L = 2 ∧ P % 2 = 1) then P + 1 else P := by
    unfold round_Cut.f
    rw [of_yes hn]
    simp only [Option.bind_some, Option.isNone_none, if_true]
    rw [sound_real (k + 79) neg b hh hh2 h1 h2]
    simp only [Option.bind_some, if_true]
    rw [if_neg (by decide), if_neg (by decide), hsn]
    by_cases c1 : 4 * (n : Int) - 8 ≤ s
    · rw [if_pos c1]
      refine ⟨2 ^ (n - 1) - 1, 0, rfl, by omega, ?_⟩
      unfold rpos
      rw [if_pos c1, if_neg (by omega)]
    · rw [if_neg (by omega)]
      by_cases c2 : s < 8 - 4 * (n : Int)
      · rw [if_pos c2]
        refine ⟨1, 0, rfl, by omega, ?_⟩
        unfold rpos
        rw [if_neg c1, if_pos c2, if_neg (by omega)]
      · rw [if_neg c2]
        have hj := j0_str hn neg b hh hh2 hl (show 8 - 4 * (n : Int) ≤ s by omega) (by omega) k
        have hin := rnd_in hn b (s := s) (F := h * 2 ^ 64 + l) (by omega) (by omega) hF.2
        have hrl := rnd_lft (Y := str s (h * 2 ^ 64 + l)) hn b
        have hbd := rnd_bd (2 ^ (202 - n)) (2 * str s (h * 2 ^ 64 + l) + b.toNat)
        have hd : (2 * str s (h * 2 ^ 64 + l) + b.toNat) / 2 ^ (202 - n) = str s (h * 2 ^ 64 + l) / 2 ^ (201 - n) := by
          rw [(unit_eq hn).2, ← Nat.div_div_eq_div_mul]
          have := toNat_le b
          congr 1
          omega
        have hfin : ∃ P L : Nat, round_Cut.j0 (k + 80) (n : Int) 1 neg s (h : Int) (l : Int) b = some ((P : Int), (L : Int), none) ∧ P < 2 ^ (n - 1) ∧ rpos n s (h * 2 ^ 64 + l) b = if L = 3 ∨ (L = 2 ∧ P % 2 = 1) then P + 1 else P := by
          refine ⟨_, _, hj, by omega, ?_⟩
          unfold rpos
          rw [if_neg c1, if_neg c2, hrl]
        by_cases c3 : s = 8 - 4 * (n : Int)
        · rw [if_pos c3]
          by_cases c4 : (h : Int) = 9223372036854775808
          · rw [if_pos c4]
            by_cases c5 : (l : Int) = 0
            · rw [if_pos c5]
              cases b with
              | true => rw [if_pos rfl]; exact hfin
              | false =>
                rw [if_neg (by decide)]
                refine ⟨1, 0, rfl, by omega, ?_⟩
                rw [if_neg (by omega)]
                unfold rpos
                rw [if_neg c1, if_neg c2]
                have hF2 : h * 2 ^ 64 + l = 2 ^ 127 := by omega
                have hr : s / 4 = -((n - 2 : Nat) : Int) := by omega
                rw [hF2, str_neg hr (by omega)]
                have ht : tl s (2 ^ 127) = 0 := tl_least (by omega)
                rw [ht, Nat.zero_mul, Nat.add_zero]
                have e1 : 2 * (2 ^ 129 * 2 ^ (70 - (n - 2))) + false.toNat = 1 * 2 ^ (202 - n) := by
                  rw [← Nat.pow_add, Nat.one_mul, show 129 + (70 - (n - 2)) = 201 - n by omega, (unit_eq hn).2]
                  rfl
                rw [e1]
                exact rnd_mul (pow_pos _)
            · rw [if_neg c5]; exact hfin
          · rw [if_neg c4]; exact hfin
        · rw [if_neg c3]; exact hfin
  obtain ⟨P, L, hc, hP, hrp⟩ := hcut
  unfold round_Round.f
  rw [hc]
  simp only [Option.bind_some, Option.isNone_none, if_true]
  have hn64 : 2 ^ (n - 1) ≤ 2 ^ 63 := pow_le (by omega)
  have hand : Go.bits .and .u64 (P : Int) 1 = ((P % 2 : Nat) : Int) := and_mask P 1 (by omega) (by omega)
  have hup : IntKind.u64.wrap ((P : Int) + 1) = ((P + 1 : Nat) : Int) := by rw [u64w]; rw [p63] at hn64; omega
  rw [hand, hup]
  have key : ∀ p : Nat, rpos n s (h * 2 ^ 64 + l) b = p → (if neg = true then (shape_Fold.f (n : Int) (IntKind.u64.wrap (-(p : Int)))).bind (fun bt => some (bt.1, bt.2)) else (shape_Fold.f (n : Int) (p : Int)).bind (fun bt => some (bt.1, bt.2))) = some (((sg n neg (rpos n s (h * 2 ^ 64 + l) b) : Nat) : Int), none) := by
    rintro p rfl
    exact fold_sg hn neg hR.1 (by omega)
  by_cases c2 : (L : Int) = 2
  · rw [if_pos c2]
    by_cases c3 : ((P % 2 : Nat) : Int) = 0
    · rw [if_pos c3]
      exact key P (by rw [hrp, if_neg (by omega)])
    · rw [if_neg c3]
      exact key (P + 1) (by rw [hrp, if_pos (by omega)])
  · rw [if_neg c2]
    by_cases c3 : (L : Int) = 3
    · rw [if_pos c3]
      exact key (P + 1) (by rw [hrp, if_pos (by omega)])
    · rw [if_neg c3]
      exact key P (by rw [hrp, if_neg (by omega)])
theorem round_zero {n : Nat} (hn : Wd n) (k : Nat) : round_Round.f (k + 1) (n : Int) 0 false 0 0 0 false = some (0, none) := by
  unfold round_Round.f round_Cut.f
  rw [of_yes hn]
  simp only [Option.bind_some, Option.isNone_none, if_true]
  rw [sound_zero k]
  simp only [Option.bind_some, if_true, Option.isNone_none]
  rw [if_neg (by decide), if_neg (by decide), if_neg (by decide)]
  have := fold_yes hn (x := 0) (by decide)
  rw [Nat.zero_mod] at this
  have h2 : shape_Fold.f (n : Int) 0 = some (0, none) := this
  rw [h2]
  rfl
theorem round_nar {n : Nat} (hn : Wd n) (k : Nat) : round_Round.f (k + 1) (n : Int) 2 false 0 0 0 false = some (((2 ^ (n - 1) : Nat) : Int), none) := by
  have hb := hn.bd
  have e := two_half hn
  have hp := pow_pos (n - 1)
  unfold round_Round.f round_Cut.f
  rw [of_yes hn]
  simp only [Option.bind_some, Option.isNone_none, if_true]
  rw [sound_nar k]
  simp only [Option.bind_some, if_true]
  rw [if_neg (by decide)]
  simp only [Option.bind_some, Option.isNone_none, if_true]
  rw [if_neg (by decide), if_neg (by decide), if_neg (by decide)]
  have hn64 : 2 ^ n ≤ 2 ^ 64 := pow_le hb.2
  rw [fold_yes hn (x := 2 ^ (n - 1)) (by omega), Nat.mod_eq_of_lt (by omega)]
  rfl
theorem round_no {n : Int} (h : ¬ (n = 8 ∨ n = 16 ∨ n = 32 ∨ n = 64)) (k : Nat) (a : Int) (b : Bool) (c d e : Int) (g : Bool) : round_Round.f k n a b c d e g = some (0, some 2) := by
  unfold round_Round.f round_Cut.f
  rw [of_no h]
  rfl
end Go.Proofs.Ytnlbfomlfhigcaa.M
namespace Go.Proofs.Ytnlbfomlfhigcaa.M
open Go.RowKit Go.Proofs.YtnlbfomlfhigcaaW.PrintWords Go.Proofs.YtnlbfomlfhigcaaW.PrintLast Go.Proofs.YtnlbfomlfhigcaaW.PrintMore Go.Proofs.Ytnlbfomlfhigcaa.Q

/-- Bit i (the highest is 0) of the len bits of v, as the text shows it. -/
def bitc (len v i : Nat) : Nat := 48 + v / 2 ^ (len - 1 - i) % 2
/-- A text of bits: its length and its number. -/
def IsBits (b : ByteArray) (len v : Nat) : Prop := b.size = len ∧ v < 2 ^ len ∧ ∀ i, i < len → bt b (i : Int) = ((bitc len v i : Nat) : Int)
theorem bitc_range (len v i : Nat) : bitc len v i = 48 ∨ bitc len v i = 49 := by unfold bitc; omega
theorem bt_strOfNums (l : List Int) (i : Nat) (hi : i < l.length) : bt (strOfNums l) (i : Int) = ((l.getD i 0).toNat % 256 : Nat) := by
  unfold bt
  have hs : (strOfNums l).size = l.length := strOfNums_size l
  rw [dif_pos (by rw [hs]; simpa using hi)]
  have : (strOfNums l)[(i : Int).toNat]'(by rw [hs]; simpa using hi) = UInt8.ofNat (l.getD i 0).toNat := by
    show ((l.map fun n => UInt8.ofNat n.toNat).toArray)[(i : Int).toNat]'_ = _
    simp [List.getD, hi]
  rw [this]
  simp
theorem append_size (a b : ByteArray) : (a ++ b).size = a.size + b.size := by simp
theorem bt_append (a b : ByteArray) (i : Nat) (hi : i < a.size + b.size) : bt (a ++ b) (i : Int) = if i < a.size then bt a (i : Int) else bt b ((i - a.size : Nat) : Int) := by
  unfold bt
  simp only [Int.toNat_natCast]
  rw [dif_pos (by rw [append_size]; exact hi)]
  by_cases c : i < a.size
  · rw [if_pos c, dif_pos c, ByteArray.getElem_append_left c]
  · rw [if_neg c, dif_pos (by omega), ByteArray.getElem_append_right (by omega)]
theorem extract_size (b : ByteArray) (i j : Nat) : (b.extract i j).size = min j b.size - i := by simp
theorem bt_extract (b : ByteArray) (i j k : Nat) (hk : k < min j b.size - i) : bt (b.extract i j) (k : Int) = bt b ((i + k : Nat) : Int) := by
  unfold bt
  simp only [Int.toNat_natCast]
  rw [dif_pos (by rw [extract_size]; exact hk), dif_pos (by omega), ByteArray.getElem_extract]
/-- A piece of a text of bits. -/
theorem IsBits.extract {b : ByteArray} {len v : Nat} (h : IsBits b len v) {i j : Nat} (hij : i ≤ j) (hj : j ≤ len) : IsBits (b.extract i j) (j - i) (v / 2 ^ (len - j) % 2 ^ (j - i)) := by
  obtain ⟨h1, h2, h3⟩ := h
  refine ⟨by rw [extract_size, h1]; omega, Nat.mod_lt _ (pow_pos _), fun k hk => ?_⟩
  rw [bt_extract b i j k (by rw [h1]; omega), h3 _ (by omega)]
  congr 1
  unfold bitc
  congr 1
  have e : j - i = (j - i - 1 - k) + (k + 1) := by omega
  have e2 : v / 2 ^ (len - j) % 2 ^ (j - i) / 2 ^ (j - i - 1 - k) % 2 = v / 2 ^ (len - j) / 2 ^ (j - i - 1 - k) % 2 := by
    rw [show 2 ^ (j - i) = 2 ^ (j - i - 1 - k) * 2 ^ (k + 1) by rw [← Nat.pow_add]; exact congrArg (2 ^ ·) e, Nat.mod_mul_right_div_self, Nat.pow_succ, Nat.mul_comm, Nat.mod_mul_right_mod]
  rw [e2, Nat.div_div_eq_div_mul, ← Nat.pow_add]
  exact congrArg (fun z => v / 2 ^ z % 2) (by omega)
/-- Two texts of bits, one behind the other. -/
theorem IsBits.append {a b : ByteArray} {la lb va vb : Nat} (h : IsBits a la va) (h' : IsBits b lb vb) : IsBits (a ++ b) (la + lb) (va * 2 ^ lb + vb) := by
  obtain ⟨h1, h2, h3⟩ := h
  obtain ⟨g1, g2, g3⟩ := h'
  refine ⟨by rw [append_size, h1, g1], ?_, fun i hi => ?_⟩
  · have : (va + 1) * 2 ^ lb ≤ 2 ^ la * 2 ^ lb := Nat.mul_le_mul_right _ h2
    rw [← Nat.pow_add, Nat.add_mul, Nat.one_mul] at this
    omega
  · rw [bt_append a b i (by rw [h1, g1]; exact hi), h1]
    by_cases c : i < la
    · rw [if_pos c, h3 i c]
      congr 1
      unfold bitc
      congr 1
      have e : la + lb - 1 - i = lb + (la - 1 - i) := by omega
      rw [e, Nat.pow_add, ← Nat.div_div_eq_div_mul, Nat.add_comm (va * 2 ^ lb), Nat.add_mul_div_right _ _ (pow_pos lb), Nat.div_eq_of_lt g2, Nat.zero_add]
    · rw [if_neg c, g3 (i - la) (by omega)]
      congr 1
      unfold bitc
      congr 1
      have e : la + lb - 1 - i = lb - 1 - (i - la) := by omega
      have e2 : 2 ^ lb = 2 ^ (lb - 1 - (i - la)) * (2 * 2 ^ (i - la)) := by rw [← Nat.pow_succ', ← Nat.pow_add]; exact congrArg (2 ^ ·) (by omega)
      rw [e, e2]
      have e3 : va * (2 ^ (lb - 1 - (i - la)) * (2 * 2 ^ (i - la))) + vb = vb + (va * 2 ^ (i - la)) * 2 * 2 ^ (lb - 1 - (i - la)) := by
        rw [Nat.add_comm]
        congr 1
        rw [Nat.mul_comm (2 ^ (lb - 1 - (i - la))), ← Nat.mul_assoc, ← Nat.mul_assoc, Nat.mul_right_comm va]
      rw [e3, Nat.add_mul_div_right _ _ (pow_pos _), Nat.add_mul_mod_self_right]
/-- The text of the lowest n bits. -/
theorem text_l0 {x n : Nat} (hn : n ≤ 64) (k : Nat) : ∀ d j : Nat, d + j = n → ∀ l : List Int, l.length = j → (∀ i, i < j → l.getD i 0 = ((bitc n (x % 2 ^ n) i : Nat) : Int)) →
    ∃ b, vernierref01_Text.l0 (k + d + 1) (x : Int) l ((d : Int) - 1) = some b ∧ IsBits b n (x % 2 ^ n) := by
  intro d
  induction d with
  | zero =>
    intro j hj l hl hg
    rw [vernierref01_Text.l0, if_neg (by omega)]
    refine ⟨_, rfl, by rw [strOfNums_size]; omega, Nat.mod_lt _ (pow_pos _), fun i hi => ?_⟩
    rw [bt_strOfNums l i (by omega), hg i (by omega), Int.toNat_natCast]
    have := bitc_range n (x % 2 ^ n) i
    rw [Nat.mod_eq_of_lt (by omega)]
  | succ d ih =>
    intro j hj l hl hg
    rw [show k + (d + 1) + 1 = (k + d + 1) + 1 by omega, vernierref01_Text.l0, if_pos (by omega), if_pos (by omega), if_pos (by omega)]
    have e1 : (((d + 1 : Nat) : Int) - 1) = ((d : Nat) : Int) := by omega
    rw [e1, shr_nat x d (by omega)]
    have e2 : wrap64 ((d : Int) - 1) = (d : Int) - 1 := wrap64_id (by omega) (by omega)
    rw [e2]
    refine ih (j + 1) (by omega) _ (by simp [hl]) (fun i hi => ?_)
    by_cases c : i < j
    · rw [List.getD_eq_getElem?_getD, List.getElem?_append_left (by omega), ← List.getD_eq_getElem?_getD]
      exact hg i c
    · have : i = j := by omega
      subst this
      rw [List.getD_eq_getElem?_getD, List.getElem?_append_right (by omega), hl, Nat.sub_self]
      have e3 : n - 1 - i = d := by omega
      unfold bitc
      rw [e3]
      have e4 : x % 2 ^ n / 2 ^ d % 2 = x / 2 ^ d % 2 := by
        rw [show 2 ^ n = 2 ^ d * (2 * 2 ^ i) by rw [← Nat.pow_succ', ← Nat.pow_add]; exact congrArg (2 ^ ·) (by omega), Nat.mod_mul_right_div_self, Nat.mod_mul_right_mod]
      rw [e4]
      show (48 + Int.tmod ((x / 2 ^ d : Nat) : Int) 2) % 256 = _
      rw [Int.tmod_eq_emod_of_nonneg (Int.natCast_nonneg _)]
      generalize x / 2 ^ d = z
      omega
theorem text_bits (x : Nat) {n : Nat} (hn : n ≤ 64) (k : Nat) : ∃ b, vernierref01_Text.f (k + 66) (x : Int) (n : Int) = some b ∧ IsBits b n (x % 2 ^ n) := by
  unfold vernierref01_Text.f
  rw [wrap64_id (by omega) (by omega)]
  have := text_l0 (x := x) hn (k + 65 - n) n 0 (by omega) [] rfl (fun i hi => absurd hi (Nat.not_lt_zero _))
  rw [show k + 65 - n + n + 1 = k + 66 by omega] at this
  exact this
/-- The number of a text of bits. -/
theorem number_l0 {b : ByteArray} {len v : Nat} (h : IsBits b len v) (hlen : len ≤ 64) (k : Nat) : ∀ d i : Nat, i + d = len →
    vernierref01_Number.l0 (k + d + 1) b ((v / 2 ^ d : Nat) : Int) (i : Int) = some (v : Int) := by
  obtain ⟨h1, h2, h3⟩ := h
  intro d
  induction d with
  | zero =>
    intro i hi
    rw [vernierref01_Number.l0, if_neg (by omega), Nat.pow_zero, Nat.div_one]
  | succ d ih =>
    intro i hi
    rw [show k + (d + 1) + 1 = (k + d + 1) + 1 by omega, vernierref01_Number.l0, if_pos (by omega), if_pos (by omega), h3 i (by omega)]
    have hw : wrap64 ((i : Int) + 1) = ((i + 1 : Nat) : Int) := by unfold wrap64; omega
    have hv : v / 2 ^ d < 2 ^ 64 := Nat.lt_of_lt_of_le (Nat.lt_of_le_of_lt (Nat.div_le_self _ _) h2) (pow_le hlen)
    have e : IntKind.u64.wrap (IntKind.u64.wrap (2 * ((v / 2 ^ (d + 1) : Nat) : Int)) + (((bitc len v i : Nat) : Int) - 48) % 256) = ((v / 2 ^ d : Nat) : Int) := by
      unfold bitc
      rw [show len - 1 - i = d by omega, Nat.pow_succ, ← Nat.div_div_eq_div_mul, u64w, u64w]
      rw [p64] at hv
      generalize v / 2 ^ d = z at *
      omega
    rw [e, hw]
    exact ih (i + 1) (by omega)
theorem number_bits {b : ByteArray} {len v : Nat} (h : IsBits b len v) (hlen : len ≤ 64) (k : Nat) : vernierref01_Number.f (k + 66) b = some (v : Int) := by
  unfold vernierref01_Number.f
  have := number_l0 h hlen (k + 65 - len) len 0 (by omega)
  rw [Nat.div_eq_of_lt h.2.1, show k + 65 - len + len + 1 = k + 66 by omega] at this
  exact this
theorem isw_yes {n : Nat} (h : Wd n) : vernierref05_Is.f (n : Int) = some true := by rcases h with rfl | rfl | rfl | rfl <;> decide
theorem isw_no {n : Int} (h : ¬ (n = 8 ∨ n = 16 ∨ n = 32 ∨ n = 64)) : vernierref05_Is.f n = some false := by
  unfold vernierref05_Is.f
  rw [if_neg (by omega), if_neg (by omega), if_neg (by omega)]
  congr 1
  exact beq_eq_false_iff_ne.mpr (by omega)
theorem rfold5_yes {n : Nat} (h : Wd n) (x : Nat) (k : Nat) : vernierref05_Fold.f (k + 66) (n : Int) (x : Int) = some (((x % 2 ^ n : Nat) : Int), 0) := by
  unfold vernierref05_Fold.f
  rw [isw_yes h]
  simp only [Option.bind_some, if_true]
  obtain ⟨b, h1, h2⟩ := text_bits x h.bd.2 k
  rw [h1]
  simp only [Option.bind_some]
  rw [number_bits h2 h.bd.2]
  rfl
theorem rfold_yes {n : Nat} (h : Wd n) (x : Nat) (k : Nat) : vernierref06_Fold.f (k + 66) (n : Int) (x : Int) = some ((x % 2 ^ n : Nat) : Int) := by
  unfold vernierref06_Fold.f
  rw [rfold5_yes h]
  rfl
theorem power_l0 (n : Nat) (hn : n ≤ 63) (k : Nat) : ∀ d i : Nat, i + d = n → vernierref05_Power.l0 (k + d + 1) (n : Int) ((2 ^ i : Nat) : Int) (i : Int) = some ((2 ^ n : Nat) : Int) := by
  intro d
  induction d with
  | zero => intro i hi; rw [vernierref05_Power.l0, if_neg (by omega), show i = n by omega]
  | succ d ih =>
    intro i hi
    rw [show k + (d + 1) + 1 = (k + d + 1) + 1 by omega, vernierref05_Power.l0, if_pos (by omega)]
    have hw : wrap64 ((i : Int) + 1) = ((i + 1 : Nat) : Int) := by unfold wrap64; omega
    have e : IntKind.u64.wrap (2 * ((2 ^ i : Nat) : Int)) = ((2 ^ (i + 1) : Nat) : Int) := by
      have h1 : 2 ^ (i + 1) ≤ 2 ^ 63 := pow_le (by omega)
      rw [Nat.pow_succ] at h1 ⊢
      rw [p63] at h1
      rw [u64w]
      omega
    rw [e, hw]
    exact ih (i + 1) (by omega)
theorem power_val {n : Nat} (hn : n ≤ 63) (k : Nat) : vernierref05_Power.f (k + 66) (n : Int) = some ((2 ^ n : Nat) : Int) := by
  unfold vernierref05_Power.f
  have := power_l0 n hn (k + 65 - n) n 0 (by omega)
  rw [show k + 65 - n + n + 1 = k + 66 by omega] at this
  exact this
end Go.Proofs.Ytnlbfomlfhigcaa.M
