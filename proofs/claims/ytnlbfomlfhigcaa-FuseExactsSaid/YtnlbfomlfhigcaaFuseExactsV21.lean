/- Walks and plain laws that the claim stands on: each theorem named calls says that a call of a function returns what its f computes; the others are plain laws of these f, and the words that the walks use. -/
import Derived.Lib.ItoaNum
import Derived.Test.YtnlbfomlfhigcaaFuseExactsV20
import Derived.Test.YtnlbfomlfhigcaaFuseExactsV15
import Derived.Test.YtnlbfomlfhigcaaFuseExactsV17
import Derived.Test.YtnlbfomlfhigcaaFuseExactsV14
import Derived.Test.YtnlbfomlfhigcaaFuseExactsV18
import Derived.Test.YtnlbfomlfhigcaaFuseExactsV4
import Derived.Test.YtnlbfomlfhigcaaFuseExactsV3
import Derived.Test.YtnlbfomlfhigcaaFuseExactsV12
import Derived.Test.YtnlbfomlfhigcaaFuseExactsV6
import Derived.Test.YtnlbfomlfhigcaaFuseExactsV5
import Derived.Test.YtnlbfomlfhigcaaFuseExactsV11
namespace Go.Proofs.Ytnlbfomlfhigcaa.M
open Go.RowKit Go.Proofs.YtnlbfomlfhigcaaW.PrintWords Go.Proofs.YtnlbfomlfhigcaaW.PrintLast Go.Proofs.YtnlbfomlfhigcaaW.PrintMore Go.Proofs.Ytnlbfomlfhigcaa.Q
def dgt (N i : Nat) : Nat := N / 2 ^ (24 * i) % 2 ^ 24
def Dw (l : List Int) (N : Nat) : Prop := N < 2 ^ (24 * l.length) ∧ ∀ i, i < l.length → rd l (i : Int) = (dgt N i : Int)
def Dg (l : List Int) (N : Nat) : Prop := Dw l N ∧ (l.length = 0 ∨ 2 ^ (24 * (l.length - 1)) ≤ N)
theorem dgt_lt (N i : Nat) : dgt N i < 2 ^ 24 := Nat.mod_lt _ (by decide)
theorem rd_nat (l : List Int) (i : Nat) : rd l (i : Int) = l.getD i 0 := by
  unfold rd
  rw [Int.toNat_natCast]
theorem dgt_big {N i : Nat} (h : N < 2 ^ (24 * i)) : dgt N i = 0 := by
  unfold dgt
  rw [Nat.div_eq_of_lt h]
theorem dgt_zero_of {N i j : Nat} (h : N < 2 ^ (24 * i)) (hij : i ≤ j) : dgt N j = 0 := dgt_big (Nat.lt_of_lt_of_le h (Nat.pow_le_pow_right (by decide) (by omega)))
theorem digit_val {l : List Int} {N : Nat} (h : Dw l N) (i : Nat) : vernierref04_digit.f l (i : Int) = some (dgt N i : Int) := by
  unfold vernierref04_digit.f
  by_cases c : i < l.length
  · rw [if_pos (by omega), if_pos (by omega), h.2 i c]
  · rw [if_neg (by omega), dgt_zero_of h.1 (by omega)]
    rfl
theorem pow24 (i : Nat) : 2 ^ (24 * (i + 1)) = 2 ^ (24 * i) * 2 ^ 24 := by rw [← Nat.pow_add]; exact congrArg (2 ^ ·) (by omega)
theorem mod_step (N i : Nat) : N % 2 ^ (24 * (i + 1)) = N % 2 ^ (24 * i) + 2 ^ (24 * i) * dgt N i := by
  rw [pow24, Nat.mod_mul]
  rfl
theorem dgt_mod {N i j : Nat} (h : i < j) : dgt (N % 2 ^ (24 * j)) i = dgt N i := by
  unfold dgt
  rw [show 24 * j = 24 * i + 24 + (24 * (j - i - 1)) by omega, Nat.pow_add, Nat.pow_add, Nat.mul_assoc, Nat.mod_mul_right_div_self, Nat.mod_mul_right_mod]
theorem dw_nil : Dw [] 0 := ⟨by simp, fun i h => absurd h (Nat.not_lt_zero _)⟩
theorem dw_snoc {l : List Int} {N : Nat} (h : Dw l (N % 2 ^ (24 * l.length))) {d : Int} (hd : d = (dgt N l.length : Int)) : Dw (l ++ [d]) (N % 2 ^ (24 * (l ++ [d]).length)) := by
  have e : (l ++ [d]).length = l.length + 1 := by simp
  refine ⟨Nat.mod_lt _ (Nat.pow_pos (by decide)), fun i hi => ?_⟩
  rw [e] at hi ⊢
  rw [dgt_mod (by omega), rd_nat]
  by_cases c : i < l.length
  · have := h.2 i c
    rw [dgt_mod c, rd_nat] at this
    rw [← this, List.getD_eq_getElem?_getD, List.getD_eq_getElem?_getD, List.getElem?_append_left c]
  · have hi2 : i = l.length := by omega
    subst hi2
    rw [hd, List.getD_eq_getElem?_getD, List.getElem?_append_right (Nat.le_refl _)]
    simp
theorem two_val {m : Nat} (hm : m < 24) (k : Nat) : vernierref04_two.f (k + 25) (m : Int) = some ((2 ^ m : Nat) : Int) := by
  have key : ∀ d i k : Nat, i + d = m → vernierref04_two.l0 (k + d + 1) (m : Int) ((2 ^ i : Nat) : Int) (i : Int) = some ((2 ^ m : Nat) : Int) := by
    intro d
    induction d with
    | zero =>
      intro i k h
      obtain rfl : i = m := by omega
      rw [vernierref04_two.l0, if_neg (by omega)]
    | succ d ih =>
      intro i k h
      have hp : 2 ^ i ≤ 2 ^ 24 := Nat.pow_le_pow_right (by decide) (by omega)
      have hw1 : wrap64 (2 * ((2 ^ i : Nat) : Int)) = ((2 ^ (i + 1) : Nat) : Int) := by rw [Nat.pow_succ]; unfold wrap64; omega
      have hw2 : wrap64 ((i : Int) + 1) = ((i + 1 : Nat) : Int) := by unfold wrap64; omega
      rw [show k + (d + 1) + 1 = (k + d + 1) + 1 by omega, vernierref04_two.l0, if_pos (by omega), hw1, hw2]
      exact ih (i + 1) k (by omega)
  have := key m 0 (k + 24 - m) (by omega)
  rw [show k + 24 - m + m + 1 = k + 25 by omega] at this
  exact this
theorem w_add3 {x y c : Nat} (hx : x < 2 ^ 24) (hy : y < 2 ^ 24) (hc : c < 2 ^ 48) : wrap64 (wrap64 ((x : Int) + (y : Int)) + (c : Int)) = ((x + y + c : Nat) : Int) := by
  unfold wrap64
  omega
theorem w_succ {i : Nat} (h : i ≤ 5000) : wrap64 ((i : Int) + 1) = ((i + 1 : Nat) : Int) := by
  unfold wrap64
  omega
theorem w_mod (t : Nat) : Int.tmod (t : Int) 16777216 = ((t % 2 ^ 24 : Nat) : Int) := by
  rw [Int.tmod_eq_emod_of_nonneg (by omega)]
  omega
theorem w_div {t : Nat} (h : t < 2 ^ 62) : wrap64 (Int.tdiv (t : Int) 16777216) = ((t / 2 ^ 24 : Nat) : Int) := by
  rw [Int.tdiv_eq_ediv_of_nonneg (by omega)]
  unfold wrap64
  omega
theorem add_step {a b i : Nat} : (dgt a i + dgt b i + (a % 2 ^ (24 * i) + b % 2 ^ (24 * i)) / 2 ^ (24 * i)) % 2 ^ 24 = dgt (a + b) i ∧
    (dgt a i + dgt b i + (a % 2 ^ (24 * i) + b % 2 ^ (24 * i)) / 2 ^ (24 * i)) / 2 ^ 24 = (a % 2 ^ (24 * (i + 1)) + b % 2 ^ (24 * (i + 1))) / 2 ^ (24 * (i + 1)) := by
  rw [mod_step a, mod_step b, pow24]
  unfold dgt
  have hP : 0 < 2 ^ (24 * i) := Nat.pow_pos (by decide)
  generalize 2 ^ (24 * i) = P at *
  have ea := Nat.div_add_mod a P
  have eb := Nat.div_add_mod b P
  have hab : (a + b) / P = a / P + b / P + (a % P + b % P) / P := by
    have : a + b = (a % P + b % P) + P * (a / P + b / P) := by rw [Nat.mul_add]; omega
    rw [this, Nat.add_mul_div_left _ _ hP]
    omega
  refine ⟨?_, ?_⟩
  · rw [hab]
    omega
  · have e : a % P + P * (a / P % 2 ^ 24) + (b % P + P * (b / P % 2 ^ 24)) = (a % P + b % P) + P * (a / P % 2 ^ 24 + b / P % 2 ^ 24) := by rw [Nat.mul_add]; omega
    rw [e, ← Nat.div_div_eq_div_mul, Nat.add_mul_div_left _ _ hP]
    congr 1
    omega
theorem add_l0 {la lb : List Int} {a b : Nat} (ha : Dg la a) (hb : Dg lb b) (hla : la.length ≤ 1000) (hlb : lb.length ≤ 1000) (k : Nat) : ∀ (d i : Nat) (out : List Int), i + d = max la.length lb.length + 1 → out.length = i → Dw out ((a + b) % 2 ^ (24 * out.length)) →
    (i = 0 ∨ 2 ^ (24 * (i - 1)) ≤ a + b) →
    ∃ r, vernierref04_Add.l0 (k + 2 * d + 2) la lb out (((a % 2 ^ (24 * i) + b % 2 ^ (24 * i)) / 2 ^ (24 * i) : Nat) : Int) (i : Int) = some r ∧ Dg r (a + b) ∧ r.length ≤ max la.length lb.length + 1 := by
  intro d
  induction d with
  | zero =>
    intro i out hi hout hD hge
    have ha2 : a < 2 ^ (24 * (i - 1)) := Nat.lt_of_lt_of_le ha.1.1 (Nat.pow_le_pow_right (by decide) (by omega))
    have hb2 : b < 2 ^ (24 * (i - 1)) := Nat.lt_of_lt_of_le hb.1.1 (Nat.pow_le_pow_right (by decide) (by omega))
    have e24 : 2 ^ (24 * i) = 2 ^ (24 * (i - 1)) * 2 ^ 24 := by rw [← pow24]; exact congrArg (2 ^ ·) (by omega)
    have hlt : a + b < 2 ^ (24 * i) := by rw [e24]; generalize 2 ^ (24 * (i - 1)) = P at *; omega
    rw [Nat.mod_eq_of_lt (show a < 2 ^ (24 * i) by omega), Nat.mod_eq_of_lt (show b < 2 ^ (24 * i) by omega), Nat.div_eq_of_lt hlt]
    refine ⟨out, ?_, ⟨?_, ?_⟩, by omega⟩
    · rw [show k + 2 * 0 + 2 = (k + 1) + 1 from rfl, vernierref04_Add.l0, if_neg (by omega), if_neg (by omega), vernierref04_Add.j1, if_neg (by simp)]
    · rw [hout, Nat.mod_eq_of_lt hlt] at hD
      exact hD
    · rw [hout]
      exact hge
  | succ d ih =>
    intro i out hi hout hD hge
    have hst := add_step (a := a) (b := b) (i := i)
    by_cases c : i < la.length ∨ i < lb.length ∨ 0 < (a % 2 ^ (24 * i) + b % 2 ^ (24 * i)) / 2 ^ (24 * i)
    · have hge' : 2 ^ (24 * i) ≤ a + b := by
        rcases c with c | c | c
        · rcases ha.2 with h0 | h0
          · omega
          · exact Nat.le_trans (Nat.le_trans (Nat.pow_le_pow_right (by decide) (by omega)) h0) (Nat.le_add_right _ _)
        · rcases hb.2 with h0 | h0
          · omega
          · exact Nat.le_trans (Nat.le_trans (Nat.pow_le_pow_right (by decide) (by omega)) h0) (Nat.le_add_left _ _)
        · have h1 := Nat.div_mul_le_self (a % 2 ^ (24 * i) + b % 2 ^ (24 * i)) (2 ^ (24 * i))
          have h2 := Nat.mul_le_mul_right (2 ^ (24 * i)) c
          have h3 := Nat.mod_le a (2 ^ (24 * i))
          have h4 := Nat.mod_le b (2 ^ (24 * i))
          omega
      have hd1 := digit_val ha.1 i
      have hd2 := digit_val hb.1 i
      have l1 := dgt_lt a i
      have l2 := dgt_lt b i
      have hcarry : (a % 2 ^ (24 * i) + b % 2 ^ (24 * i)) / 2 ^ (24 * i) ≤ 1 := by
        have hP : 0 < 2 ^ (24 * i) := Nat.pow_pos (by decide)
        have h1 := Nat.mod_lt a hP
        have h2 := Nat.mod_lt b hP
        rw [← Nat.lt_succ_iff, Nat.div_lt_iff_lt_mul hP]
        omega
      have hj : vernierref04_Add.l0 (k + 2 * (d + 1) + 2) la lb out (((a % 2 ^ (24 * i) + b % 2 ^ (24 * i)) / 2 ^ (24 * i) : Nat) : Int) (i : Int) = vernierref04_Add.j1 (k + 2 * d + 2 + 1) la lb out (((a % 2 ^ (24 * i) + b % 2 ^ (24 * i)) / 2 ^ (24 * i) : Nat) : Int) (i : Int) true := by
        rw [show k + 2 * (d + 1) + 2 = (k + 2 * d + 2 + 1) + 1 by omega, vernierref04_Add.l0]
        by_cases c1 : (i : Int) < (la.length : Int)
        · rw [if_pos c1]
        · rw [if_neg c1]
          by_cases c2 : (i : Int) < (lb.length : Int)
          · rw [if_pos c2]
          · rw [if_neg c2]
            have c3 : (((a % 2 ^ (24 * i) + b % 2 ^ (24 * i)) / 2 ^ (24 * i) : Nat) : Int) > 0 := by omega
            rw [decide_eq_true c3]
      rw [hj, vernierref04_Add.j1, if_pos rfl, hd1, Option.bind_some, hd2, Option.bind_some, if_pos (by omega)]
      generalize hcr : (a % 2 ^ (24 * i) + b % 2 ^ (24 * i)) / 2 ^ (24 * i) = cr at *
      rw [w_add3 l1 l2 (by omega), w_succ (by omega), w_mod, w_div (by omega), hst.1, hst.2]
      have hlen : (out ++ [(dgt (a + b) i : Int)]).length = i + 1 := by simp [hout]
      exact ih (i + 1) _ (by omega) hlen (dw_snoc hD (by rw [hout])) (.inr hge')
    · have c1 : ¬ i < la.length := fun h => c (.inl h)
      have c2 : ¬ i < lb.length := fun h => c (.inr (.inl h))
      have c3 : (a % 2 ^ (24 * i) + b % 2 ^ (24 * i)) / 2 ^ (24 * i) = 0 := Nat.eq_zero_of_not_pos fun h => c (.inr (.inr h))
      have ha2 : a < 2 ^ (24 * i) := Nat.lt_of_lt_of_le ha.1.1 (Nat.pow_le_pow_right (by decide) (by omega))
      have hb2 : b < 2 ^ (24 * i) := Nat.lt_of_lt_of_le hb.1.1 (Nat.pow_le_pow_right (by decide) (by omega))
      rw [Nat.mod_eq_of_lt ha2, Nat.mod_eq_of_lt hb2] at c3 ⊢
      have hlt : a + b < 2 ^ (24 * i) := by
        rcases Nat.div_eq_zero_iff.1 c3 with h | h
        · have : 0 < 2 ^ (24 * i) := Nat.pow_pos (by decide)
          omega
        · exact h
      rw [c3]
      refine ⟨out, ?_, ⟨?_, ?_⟩, by omega⟩
      · rw [show k + 2 * (d + 1) + 2 = (k + 2 * d + 2 + 1) + 1 by omega, vernierref04_Add.l0, if_neg (by omega), if_neg (by omega), vernierref04_Add.j1, if_neg (by simp)]
      · rw [hout, Nat.mod_eq_of_lt hlt] at hD
        exact hD
      · rw [hout]
        exact hge
theorem add_list {la lb : List Int} {a b : Nat} (ha : Dg la a) (hb : Dg lb b) (hla : la.length ≤ 40) (hlb : lb.length ≤ 40) (k : Nat) : ∃ r, vernierref04_Add.f (k + 100) la lb = some r ∧ Dg r (a + b) ∧ r.length ≤ 41 := by
  obtain ⟨r, h1, h2, h3⟩ := add_l0 ha hb (by omega) (by omega) (k + 100 - (2 * (max la.length lb.length + 1) + 2)) (max la.length lb.length + 1) 0 [] (by omega) rfl (by rw [List.length_nil, Nat.mul_zero, Nat.pow_zero, Nat.mod_one]; exact dw_nil) (.inl rfl)
  rw [show k + 100 - (2 * (max la.length lb.length + 1) + 2) + 2 * (max la.length lb.length + 1) + 2 = k + 100 by omega, Nat.mul_zero, Nat.pow_zero, Nat.mod_one, Nat.mod_one] at h1
  exact ⟨r, h1, h2, by omega⟩
end Go.Proofs.Ytnlbfomlfhigcaa.M
namespace Go.Proofs.Ytnlbfomlfhigcaa.M
open Go.RowKit Go.Proofs.YtnlbfomlfhigcaaW.PrintWords Go.Proofs.YtnlbfomlfhigcaaW.PrintLast Go.Proofs.YtnlbfomlfhigcaaW.PrintMore Go.Proofs.Ytnlbfomlfhigcaa.Q
theorem pow24_pos (i : Nat) : 0 < 2 ^ (24 * i) := Nat.pow_pos (by decide)
theorem times_step {a q i : Nat} : (dgt a i * q + a % 2 ^ (24 * i) * q / 2 ^ (24 * i)) % 2 ^ 24 = dgt (a * q) i ∧
    (dgt a i * q + a % 2 ^ (24 * i) * q / 2 ^ (24 * i)) / 2 ^ 24 = a % 2 ^ (24 * (i + 1)) * q / 2 ^ (24 * (i + 1)) := by
  rw [mod_step a, pow24]
  unfold dgt
  have hP := pow24_pos i
  generalize 2 ^ (24 * i) = P at *
  have ea := Nat.div_add_mod a P
  have e1 : a * q / P = a / P * q + a % P * q / P := by
    have : a * q = a % P * q + P * (a / P * q) := by
      rw [← Nat.mul_assoc, ← Nat.add_mul, Nat.add_comm, ea]
    rw [this, Nat.add_mul_div_left _ _ hP, Nat.add_comm]
  refine ⟨?_, ?_⟩
  · rw [e1, Nat.add_mod, Nat.mod_mul_mod, ← Nat.add_mod]
  · have e : (a % P + P * (a / P % 2 ^ 24)) * q = a % P * q + P * (a / P % 2 ^ 24 * q) := by rw [Nat.add_mul, Nat.mul_assoc]
    rw [e, ← Nat.div_div_eq_div_mul, Nat.add_mul_div_left _ _ hP, Nat.add_comm]
theorem w_mul {x y c : Nat} (hx : x < 2 ^ 24) (hy : y < 2 ^ 24) (hc : c < 2 ^ 48) : wrap64 (wrap64 ((x : Int) * (y : Int)) + (c : Int)) = ((x * y + c : Nat) : Int) ∧ x * y + c < 2 ^ 62 := by
  have h : x * y < 2 ^ 24 * 2 ^ 24 := Nat.mul_lt_mul_of_lt_of_le hx (Nat.le_of_lt hy) (by decide)
  rw [← Int.natCast_mul]
  generalize x * y = z at *
  refine ⟨?_, by omega⟩
  unfold wrap64
  omega
theorem times_l0 {la : List Int} {a q : Nat} (ha : Dg la a) (hq : 1 ≤ q) (hq2 : q < 2 ^ 24) (hla : la.length ≤ 1000) (k : Nat) : ∀ (d i : Nat) (out : List Int), i + d = la.length + 1 → out.length = i → Dw out ((a * q) % 2 ^ (24 * out.length)) →
    (i = 0 ∨ 2 ^ (24 * (i - 1)) ≤ a * q) →
    ∃ r, vernierref04_times.l0 (k + d + 1) la (q : Int) out ((a % 2 ^ (24 * i) * q / 2 ^ (24 * i) : Nat) : Int) (i : Int) = some r ∧ Dg r (a * q) ∧ r.length ≤ la.length + 1 := by
  intro d
  induction d with
  | zero =>
    intro i out hi hout hD hge
    have ha2 : a < 2 ^ (24 * (i - 1)) := Nat.lt_of_lt_of_le ha.1.1 (Nat.pow_le_pow_right (by decide) (by omega))
    have e24 : 2 ^ (24 * i) = 2 ^ (24 * (i - 1)) * 2 ^ 24 := by rw [← pow24]; exact congrArg (2 ^ ·) (by omega)
    have hlt : a * q < 2 ^ (24 * i) := by
      rw [e24]
      exact Nat.mul_lt_mul_of_lt_of_le ha2 (Nat.le_of_lt hq2) (by decide)
    have halt : a < 2 ^ (24 * i) := Nat.lt_of_le_of_lt (Nat.le_mul_of_pos_right a hq) hlt
    rw [Nat.mod_eq_of_lt halt, Nat.div_eq_of_lt hlt]
    refine ⟨out, ?_, ⟨?_, ?_⟩, by omega⟩
    · rw [vernierref04_times.l0, if_neg (by omega), if_neg (by omega)]
    · rw [hout, Nat.mod_eq_of_lt hlt] at hD
      exact hD
    · rw [hout]
      exact hge
  | succ d ih =>
    intro i out hi hout hD hge
    have hol : out.length < 17592186044416 := by omega
    have hq0 : (q : Int) > 0 := by omega
    have hi5 : i ≤ 5000 := by omega
    have hst := times_step (a := a) (q := q) (i := i)
    have hP := pow24_pos i
    have hcarry : a % 2 ^ (24 * i) * q / 2 ^ (24 * i) < 2 ^ 24 := by
      rw [Nat.div_lt_iff_lt_mul hP, Nat.mul_comm (2 ^ 24)]
      exact Nat.mul_lt_mul_of_lt_of_le (Nat.mod_lt a hP) (Nat.le_of_lt hq2) (by decide)
    by_cases c : i < la.length ∨ 0 < a % 2 ^ (24 * i) * q / 2 ^ (24 * i)
    · have hge' : 2 ^ (24 * i) ≤ a * q := by
        rcases c with c | c
        · rcases ha.2 with h0 | h0
          · omega
          · exact Nat.le_trans (Nat.le_trans (Nat.pow_le_pow_right (by decide) (by omega)) h0) (Nat.le_mul_of_pos_right a hq)
        · have h1 := Nat.div_mul_le_self (a % 2 ^ (24 * i) * q) (2 ^ (24 * i))
          have h2 := Nat.mul_le_mul_right (2 ^ (24 * i)) c
          have h3 := Nat.mul_le_mul_right q (Nat.mod_le a (2 ^ (24 * i)))
          omega
      have hd1 := digit_val ha.1 i
      have l1 := dgt_lt a i
      generalize hcr : a % 2 ^ (24 * i) * q / 2 ^ (24 * i) = cr at *
      obtain ⟨w1, w2⟩ := w_mul l1 hq2 (show cr < 2 ^ 48 by omega)
      have hlen : (out ++ [(dgt (a * q) i : Int)]).length = i + 1 := by simp [hout]
      have hnext := ih (i + 1) _ (by omega) hlen (dw_snoc hD (by rw [hout])) (.inr hge')
      rw [show k + (d + 1) + 1 = (k + d + 1) + 1 by omega, vernierref04_times.l0]
      have hbody : ((vernierref04_digit.f la (i : Int)).bind fun t747 => (if out.length < 17592186044416 then (vernierref04_times.l0 (k + d + 1) la (q : Int) (out ++ [Int.tmod (wrap64 ((wrap64 (t747 * (q : Int))) + (cr : Int))) 16777216]) (wrap64 (Int.tdiv (wrap64 ((wrap64 (t747 * (q : Int))) + (cr : Int))) 16777216)) (wrap64 ((i : Int) + 1))) else (none))) =
          vernierref04_times.l0 (k + d + 1) la (q : Int) (out ++ [(dgt (a * q) i : Int)]) ((a % 2 ^ (24 * (i + 1)) * q / 2 ^ (24 * (i + 1)) : Nat) : Int) ((i + 1 : Nat) : Int) := by
        rw [hd1, Option.bind_some, if_pos hol, w1, w_mod, w_div w2, w_succ hi5, hst.1, hst.2]
      by_cases c1 : (i : Int) < (la.length : Int)
      · rw [if_pos c1, if_pos hq0, hbody]
        exact hnext
      · have c4 : (cr : Int) > 0 := by
          rcases c with c | c
          · omega
          · exact Int.ofNat_lt.2 c
        rw [if_neg c1, if_pos c4, hbody]
        exact hnext
    · have c1 : ¬ i < la.length := fun h => c (.inl h)
      have c3 : a % 2 ^ (24 * i) * q / 2 ^ (24 * i) = 0 := Nat.eq_zero_of_not_pos fun h => c (.inr h)
      have ha2 : a < 2 ^ (24 * i) := Nat.lt_of_lt_of_le ha.1.1 (Nat.pow_le_pow_right (by decide) (by omega))
      rw [Nat.mod_eq_of_lt ha2] at c3 ⊢
      have hlt : a * q < 2 ^ (24 * i) := by
        rcases Nat.div_eq_zero_iff.1 c3 with h | h
        · omega
        · exact h
      rw [c3]
      refine ⟨out, ?_, ⟨?_, ?_⟩, by omega⟩
      · rw [show k + (d + 1) + 1 = (k + d + 1) + 1 by omega, vernierref04_times.l0, if_neg (by omega), if_neg (by omega)]
      · rw [hout, Nat.mod_eq_of_lt hlt] at hD
        exact hD
      · rw [hout]
        exact hge
theorem times_list {la : List Int} {a q : Nat} (ha : Dg la a) (hq : 1 ≤ q) (hq2 : q < 2 ^ 24) (hla : la.length ≤ 40) (k : Nat) : ∃ r, vernierref04_times.f (k + 50) la (q : Int) = some r ∧ Dg r (a * q) ∧ r.length ≤ la.length + 1 := by
  obtain ⟨r, h1, h2, h3⟩ := times_l0 ha hq hq2 (by omega) (k + 50 - (la.length + 2)) (la.length + 1) 0 [] (by omega) rfl (by rw [List.length_nil, Nat.mul_zero, Nat.pow_zero, Nat.mod_one]; exact dw_nil) (.inl rfl)
  rw [show k + 50 - (la.length + 2) + (la.length + 1) + 1 = k + 50 by omega, Nat.mul_zero, Nat.pow_zero, Nat.mod_one, Nat.zero_mul] at h1
  exact ⟨r, h1, h2, h3⟩
theorem dg_zero {l : List Int} (h : Dg l 0) : l.length = 0 := by
  rcases h.2 with h | h
  · exact h
  · have := pow24_pos (l.length - 1)
    omega
theorem dg_nil : Dg [] 0 := ⟨dw_nil, .inl rfl⟩
theorem len_zero {l : List Int} {a : Nat} (h : Dg l a) (h0 : l.length = 0) : a = 0 := by
  have := h.1.1
  rw [h0, Nat.mul_zero, Nat.pow_zero] at this
  omega
theorem rd_zeros {m : Nat} {l : List Int} (i : Nat) : rd (List.replicate m 0 ++ l) (i : Int) = if i < m then 0 else rd l ((i - m : Nat) : Int) := by
  rw [rd_nat, rd_nat, List.getD_eq_getElem?_getD]
  by_cases c : i < m
  · rw [if_pos c, List.getElem?_append_left (by simpa using c), List.getElem?_replicate, if_pos c]
    rfl
  · rw [if_neg c, List.getElem?_append_right (by simp; omega), List.length_replicate, List.getD_eq_getElem?_getD]
theorem dgt_up {a m i : Nat} : dgt (a * 2 ^ (24 * m)) i = if i < m then 0 else dgt a (i - m) := by
  unfold dgt
  by_cases c : i < m
  · rw [if_pos c, show 24 * m = 24 * i + (24 + 24 * (m - i - 1)) by omega, Nat.pow_add, Nat.mul_left_comm, Nat.mul_div_cancel_left _ (pow24_pos i), Nat.pow_add, Nat.mul_left_comm, Nat.mul_mod_right]
  · rw [if_neg c, show 24 * i = 24 * m + 24 * (i - m) by omega, Nat.pow_add, ← Nat.div_div_eq_div_mul, Nat.mul_div_cancel _ (pow24_pos m)]
theorem dg_zeros {l : List Int} {a m : Nat} (h : Dg l a) (ha : a ≠ 0) : Dg (List.replicate m 0 ++ l) (a * 2 ^ (24 * m)) := by
  have hl : l.length ≠ 0 := fun h0 => ha (len_zero h h0)
  have e : (List.replicate m (0 : Int) ++ l).length = m + l.length := by simp
  refine ⟨⟨?_, fun i hi => ?_⟩, .inr ?_⟩
  · rw [e, show 24 * (m + l.length) = 24 * l.length + 24 * m by omega, Nat.pow_add]
    exact Nat.mul_lt_mul_of_pos_right h.1.1 (pow24_pos m)
  · rw [e] at hi
    rw [rd_zeros, dgt_up]
    by_cases c : i < m
    · rw [if_pos c, if_pos c]
      rfl
    · rw [if_neg c, if_neg c]
      exact h.1.2 _ (by omega)
  · rw [e, show 24 * (m + l.length - 1) = 24 * (l.length - 1) + 24 * m by omega, Nat.pow_add]
    exact Nat.mul_le_mul_right _ (h.2.resolve_left hl)
theorem shl_list {la : List Int} {a n : Nat} (ha : Dg la a) (hla : la.length ≤ 20) (hn : n ≤ 480) (k : Nat) : ∃ r, vernierref04_Shl.f (k + 50) la (n : Int) = some r ∧ Dg r (a * 2 ^ n) ∧ r.length ≤ la.length + 21 := by
  unfold vernierref04_Shl.f
  by_cases c : la.length = 0
  · rw [if_pos (by omega), len_zero ha c, Nat.zero_mul]
    exact ⟨[], rfl, dg_nil, by simp⟩
  · have ha0 : a ≠ 0 := by
      have h := ha.2.resolve_left c
      have := pow24_pos (la.length - 1)
      omega
    have hq : wrap64 (Int.tdiv (n : Int) 24) = ((n / 24 : Nat) : Int) := by
      rw [Int.tdiv_eq_ediv_of_nonneg (by omega)]
      unfold wrap64
      omega
    have hm : Int.tmod (n : Int) 24 = ((n % 24 : Nat) : Int) := by
      rw [Int.tmod_eq_emod_of_nonneg (by omega)]
      omega
    have hr : n % 24 < 24 := Nat.mod_lt _ (by decide)
    have hp1 : 1 ≤ 2 ^ (n % 24) := Nat.one_le_two_pow
    have hp2 : 2 ^ (n % 24) < 2 ^ 24 := Nat.pow_lt_pow_right (by decide) hr
    obtain ⟨r, h1, h2, h3⟩ := times_list ha hp1 hp2 (by omega) k
    have htwo : vernierref04_two.f (k + 50) ((n % 24 : Nat) : Int) = some ((2 ^ (n % 24) : Nat) : Int) := two_val hr (k + 25)
    rw [if_neg (by omega), hq, hm, if_pos (by omega), Int.toNat_natCast, if_pos (by omega), Option.bind_some, htwo, Option.bind_some, h1, Option.bind_some, List.length_replicate, if_pos (by omega)]
    refine ⟨_, rfl, ?_, by rw [List.length_append, List.length_replicate]; omega⟩
    have e : a * 2 ^ n = a * 2 ^ (n % 24) * 2 ^ (24 * (n / 24)) := by
      rw [Nat.mul_assoc, ← Nat.pow_add]
      refine congrArg (a * 2 ^ ·) (by omega)
    rw [e]
    exact dg_zeros h2 (Nat.mul_ne_zero ha0 (by omega))
theorem digit00 : vernierref00_digit.f = vernierref04_digit.f := rfl
theorem two00 (k : Nat) : ∀ x y z, vernierref00_two.l0 k x y z = vernierref04_two.l0 k x y z := by
  induction k with
  | zero => intro x y z; rfl
  | succ k ih => intro x y z; rw [vernierref00_two.l0, vernierref04_two.l0, ih]
theorem times00 (k : Nat) : ∀ x y z u v, vernierref00_times.l0 k x y z u v = vernierref04_times.l0 k x y z u v := by
  induction k with
  | zero => intro x y z u v; rfl
  | succ k ih => intro x y z u v; simp only [vernierref00_times.l0, vernierref04_times.l0, ih, digit00]
theorem add00 (k : Nat) : (∀ x y z u v, vernierref00_Add.l0 k x y z u v = vernierref04_Add.l0 k x y z u v) ∧ (∀ x y z u v b, vernierref00_Add.j1 k x y z u v b = vernierref04_Add.j1 k x y z u v b) := by
  induction k with
  | zero => exact ⟨fun _ _ _ _ _ => rfl, fun _ _ _ _ _ _ => rfl⟩
  | succ k ih =>
    refine ⟨fun x y z u v => ?_, fun x y z u v b => ?_⟩
    · simp only [vernierref00_Add.l0, vernierref04_Add.l0, ih.2]
    · simp only [vernierref00_Add.j1, vernierref04_Add.j1, ih.1, digit00]
theorem shl00 (k : Nat) (l : List Int) (n : Int) : vernierref00_Shl.f k l n = vernierref04_Shl.f k l n := by
  unfold vernierref00_Shl.f vernierref04_Shl.f vernierref00_two.f vernierref04_two.f vernierref00_times.f vernierref04_times.f
  simp only [two00, times00]
theorem add00' (k : Nat) (l m : List Int) : vernierref00_Add.f k l m = vernierref04_Add.f k l m := (add00 k).1 _ _ _ _ _
theorem of_l0 {v : Nat} (hv : v < 2 ^ 64) (k : Nat) : ∀ (d i : Nat) (out : List Int), i + d = 3 → out.length = i → Dw out (v % 2 ^ (24 * out.length)) → (i = 0 ∨ 2 ^ (24 * (i - 1)) ≤ v) →
    ∃ r, vernierref00_Of.l0 (k + d + 1) ((v / 2 ^ (24 * i) : Nat) : Int) out = some r ∧ Dg r v ∧ r.length ≤ 3 := by
  intro d
  induction d with
  | zero =>
    intro i out hi hout hD hge
    obtain rfl : i = 3 := by omega
    have hlt : v < 2 ^ (24 * 3) := Nat.lt_trans hv (by decide)
    rw [Nat.div_eq_of_lt hlt]
    refine ⟨out, ?_, ⟨?_, ?_⟩, by omega⟩
    · rw [vernierref00_Of.l0, if_neg (by omega)]
    · rw [hout, Nat.mod_eq_of_lt hlt] at hD
      exact hD
    · rw [hout]
      exact hge
  | succ d ih =>
    intro i out hi hout hD hge
    have hP := pow24_pos i
    by_cases c : 0 < v / 2 ^ (24 * i)
    · have hge' : 2 ^ (24 * i) ≤ v := (Nat.one_le_div_iff hP).1 c
      have hlt : v / 2 ^ (24 * i) < 2 ^ 64 := Nat.lt_of_le_of_lt (Nat.div_le_self _ _) hv
      have e1 : IntKind.u64.wrap (Int.tdiv ((v / 2 ^ (24 * i) : Nat) : Int) 16777216) = ((v / 2 ^ (24 * (i + 1)) : Nat) : Int) := by
        rw [pow24, ← Nat.div_div_eq_div_mul, Int.tdiv_eq_ediv_of_nonneg (by omega), u64w]
        omega
      have e2 : wrap64 (Int.tmod ((v / 2 ^ (24 * i) : Nat) : Int) 16777216) = (dgt v i : Int) := by
        unfold dgt
        rw [Int.tmod_eq_emod_of_nonneg (by omega)]
        unfold wrap64
        omega
      have hlen : (out ++ [(dgt v i : Int)]).length = i + 1 := by simp [hout]
      rw [show k + (d + 1) + 1 = (k + d + 1) + 1 by omega, vernierref00_Of.l0, if_pos (show ((v / 2 ^ (24 * i) : Nat) : Int) > 0 from Int.ofNat_lt.2 c), if_pos (by omega), e1, e2]
      exact ih (i + 1) _ (by omega) hlen (dw_snoc hD (by rw [hout])) (.inr hge')
    · have c0 : v / 2 ^ (24 * i) = 0 := Nat.eq_zero_of_not_pos c
      have hlt : v < 2 ^ (24 * i) := by
        rcases Nat.div_eq_zero_iff.1 c0 with h | h
        · omega
        · exact h
      rw [c0]
      refine ⟨out, ?_, ⟨?_, ?_⟩, by omega⟩
      · rw [show k + (d + 1) + 1 = (k + d + 1) + 1 by omega, vernierref00_Of.l0, if_neg (by omega)]
      · rw [hout, Nat.mod_eq_of_lt hlt] at hD
        exact hD
      · rw [hout]
        exact hge
theorem of_list {v : Nat} (hv : v < 2 ^ 64) (k : Nat) : ∃ r, vernierref00_Of.f (k + 4) (v : Int) = some r ∧ Dg r v ∧ r.length ≤ 3 := by
  obtain ⟨r, h1, h2, h3⟩ := of_l0 hv k 3 0 [] (by omega) rfl (by rw [List.length_nil, Nat.mul_zero, Nat.pow_zero, Nat.mod_one]; exact dw_nil) (.inl rfl)
  rw [Nat.mul_zero, Nat.pow_zero, Nat.div_one] at h1
  exact ⟨r, h1, h2, h3⟩
theorem of_twin {h l : Nat} (hh : h < 2 ^ 64) (hl : l < 2 ^ 64) (k : Nat) : ∃ r, vernierref02_Of.f (k + 100) (h : Int) (l : Int) = some r ∧ Dg r (h * 2 ^ 64 + l) ∧ r.length ≤ 6 := by
  obtain ⟨r1, a1, a2, a3⟩ := of_list hh (k + 96)
  obtain ⟨r2, b1, b2, b3⟩ := shl_list (n := 64) a2 (by omega) (by decide) (k + 50)
  obtain ⟨r3, c1, c2, c3⟩ := of_list hl (k + 96)
  obtain ⟨r4, d1, d2, d3⟩ := add_list b2 c2 (by omega) (by omega) k
  have hlen : r4.length ≤ 6 := by
    rcases d2.2 with h0 | h0
    · omega
    · refine Nat.le_of_not_lt fun hgt => ?_
      have h1 : 2 ^ (24 * 6) ≤ 2 ^ (24 * (r4.length - 1)) := Nat.pow_le_pow_right (by decide) (by omega)
      have h2 : h * 2 ^ 64 + l < 2 ^ (24 * 6) := by
        have : (2 : Nat) ^ (24 * 6) = 2 ^ 144 := rfl
        omega
      omega
  refine ⟨r4, ?_, d2, hlen⟩
  unfold vernierref02_Of.f
  have b1' : vernierref00_Shl.f (k + 100) r1 64 = some r2 := by rw [shl00]; exact b1
  rw [show k + 100 = k + 96 + 4 from rfl, a1, Option.bind_some, show k + 96 + 4 = k + 100 from rfl, b1', Option.bind_some, show k + 100 = k + 96 + 4 from rfl, c1, Option.bind_some, show k + 96 + 4 = k + 100 from rfl, add00', d1]
  rfl
end Go.Proofs.Ytnlbfomlfhigcaa.M
namespace Go.Proofs.Ytnlbfomlfhigcaa.M
open Go.RowKit Go.Proofs.YtnlbfomlfhigcaaW.PrintWords Go.Proofs.YtnlbfomlfhigcaaW.PrintLast Go.Proofs.YtnlbfomlfhigcaaW.PrintMore Go.Proofs.Ytnlbfomlfhigcaa.Q
theorem w_pred {i : Nat} (h : 1 ≤ i) (h2 : i ≤ 5000) : wrap64 ((i : Int) - 1) = ((i - 1 : Nat) : Int) := by
  unfold wrap64
  omega
theorem div_step (N i : Nat) : N / 2 ^ (24 * i) = N / 2 ^ (24 * (i + 1)) * 2 ^ 24 + dgt N i := by
  unfold dgt
  rw [pow24, ← Nat.div_div_eq_div_mul]
  have := Nat.div_add_mod (N / 2 ^ (24 * i)) (2 ^ 24)
  omega
theorem cmp_l0 {la lb : List Int} {a b : Nat} (ha : Dw la a) (hb : Dw lb b) (he : la.length = lb.length) (hl : la.length ≤ 1000) (k : Nat) : ∀ i : Nat, i ≤ la.length → a / 2 ^ (24 * i) = b / 2 ^ (24 * i) →
    vernierref04_Cmp.l0 (k + i + 1) la lb ((i : Int) - 1) = some (if a < b then -1 else if a > b then 1 else 0) := by
  intro i
  induction i with
  | zero =>
    intro _ h
    rw [Nat.mul_zero, Nat.pow_zero, Nat.div_one, Nat.div_one] at h
    rw [vernierref04_Cmp.l0, if_neg (by omega), if_neg (by omega), if_neg (by omega)]
  | succ i ih =>
    intro hi h
    have e1 : ((i + 1 : Nat) : Int) - 1 = (i : Int) := by omega
    have hd1 := ha.2 i (by omega)
    have hd2 := hb.2 i (by omega)
    have s1 := div_step a i
    have s2 := div_step b i
    rw [h] at s1
    have hP := pow24_pos i
    have hw : wrap64 ((i : Int) - 1) = (i : Int) - 1 := by unfold wrap64; omega
    rw [show k + (i + 1) + 1 = (k + i + 1) + 1 by omega, e1, vernierref04_Cmp.l0, if_pos (by omega), if_pos (by omega), if_pos (by omega), if_pos (by omega), hd1, hd2]
    by_cases c1 : dgt a i < dgt b i
    · have h1 : a / 2 ^ (24 * i) < b / 2 ^ (24 * i) := by omega
      have : a < b := Nat.lt_of_div_lt_div h1
      rw [if_pos (by omega), if_pos this]
    · by_cases c2 : dgt a i > dgt b i
      · have h1 : b / 2 ^ (24 * i) < a / 2 ^ (24 * i) := by omega
        have : b < a := Nat.lt_of_div_lt_div h1
        rw [if_neg (by omega), if_pos (by omega), if_neg (by omega), if_pos this]
      · rw [if_neg (by omega), if_neg (by omega), hw]
        exact ih (by omega) (by omega)
theorem cmp_list {la lb : List Int} {a b : Nat} (ha : Dg la a) (hb : Dg lb b) (hla : la.length ≤ 45) (hlb : lb.length ≤ 45) (k : Nat) : vernierref04_Cmp.f (k + 50) la lb = some (if a < b then -1 else if a > b then 1 else 0) := by
  unfold vernierref04_Cmp.f
  by_cases c : la.length = lb.length
  · have hw : wrap64 ((la.length : Int) - 1) = (la.length : Int) - 1 := by unfold wrap64; omega
    have h := cmp_l0 ha.1 hb.1 c (by omega) (k + 49 - la.length) la.length (Nat.le_refl _) (by rw [Nat.div_eq_of_lt ha.1.1, c, Nat.div_eq_of_lt hb.1.1])
    rw [show k + 49 - la.length + la.length + 1 = k + 50 by omega] at h
    rw [if_pos (by omega), hw]
    exact h
  · rw [if_neg (by omega)]
    by_cases c2 : la.length < lb.length
    · have h1 := ha.1.1
      have h2 := hb.2.resolve_left (by omega)
      have h3 : 2 ^ (24 * la.length) ≤ 2 ^ (24 * (lb.length - 1)) := Nat.pow_le_pow_right (by decide) (by omega)
      rw [if_pos (by omega), if_pos (by omega)]
    · have h1 := hb.1.1
      have h2 := ha.2.resolve_left (by omega)
      have h3 : 2 ^ (24 * lb.length) ≤ 2 ^ (24 * (la.length - 1)) := Nat.pow_le_pow_right (by decide) (by omega)
      rw [if_neg (by omega), if_neg (by omega), if_pos (by omega)]
theorem rd_take {l : List Int} {n i : Nat} (h : i < n) : rd (l.take n) (i : Int) = rd l (i : Int) := by
  rw [rd_nat, rd_nat, List.getD_eq_getElem?_getD, List.getD_eq_getElem?_getD, List.getElem?_take_of_lt h]
theorem dw_take {l : List Int} {N n : Nat} (h : Dw l N) (hn : n ≤ l.length) (hN : N < 2 ^ (24 * n)) : Dw (l.take n) N := by
  have e : (l.take n).length = n := by simp; omega
  refine ⟨by rw [e]; exact hN, fun i hi => ?_⟩
  rw [e] at hi
  rw [rd_take hi]
  exact h.2 i (by omega)
theorem cut_l0 {l : List Int} {N : Nat} (h : Dw l N) (hl : l.length ≤ 1000) (k : Nat) : ∀ n : Nat, n ≤ l.length → N < 2 ^ (24 * n) → ∃ r, vernierref04_Cut.l0 (k + n + 1) l (n : Int) = some r ∧ Dg r N ∧ r.length ≤ n := by
  intro n
  induction n with
  | zero =>
    intro _ hN
    rw [vernierref04_Cut.l0, if_neg (by omega), if_pos (by omega), if_pos (by omega), Int.toNat_natCast]
    exact ⟨_, rfl, ⟨dw_take h (by omega) hN, .inl (by simp)⟩, by simp⟩
  | succ n ih =>
    intro hn hN
    have hd := h.2 n (by omega)
    have hw : wrap64 (((n + 1 : Nat) : Int) - 1) = (n : Int) := by unfold wrap64; omega
    rw [show k + (n + 1) + 1 = (k + n + 1) + 1 by omega, vernierref04_Cut.l0, if_pos (by omega), hw, if_pos (by omega), if_pos (by omega), hd]
    have hlt : N / 2 ^ (24 * n) < 2 ^ 24 := by
      rw [Nat.div_lt_iff_lt_mul (pow24_pos n), Nat.mul_comm, ← pow24]
      exact hN
    have hdg : dgt N n = N / 2 ^ (24 * n) := Nat.mod_eq_of_lt hlt
    by_cases c : dgt N n = 0
    · rw [c] at hdg
      have hN2 : N < 2 ^ (24 * n) := by
        rcases Nat.div_eq_zero_iff.1 hdg.symm with h0 | h0
        · have := pow24_pos n
          omega
        · exact h0
      rw [if_pos (by omega)]
      obtain ⟨r, h1, h2, h3⟩ := ih (by omega) hN2
      exact ⟨r, h1, h2, by omega⟩
    · rw [if_neg (by omega), if_pos (by omega), if_pos (by omega), Int.toNat_natCast]
      have hge : 2 ^ (24 * n) ≤ N := (Nat.one_le_div_iff (pow24_pos n)).1 (by omega)
      refine ⟨_, rfl, ⟨dw_take h hn hN, .inr ?_⟩, by simp; omega⟩
      have e : (l.take (n + 1)).length = n + 1 := by simp; omega
      rw [e]
      exact hge
theorem cut_list {l : List Int} {N : Nat} (h : Dw l N) (hl : l.length ≤ 45) (k : Nat) : ∃ r, vernierref04_Cut.f (k + 50) l = some r ∧ Dg r N ∧ r.length ≤ l.length := by
  obtain ⟨r, h1, h2, h3⟩ := cut_l0 h (by omega) (k + 49 - l.length) l.length (Nat.le_refl _) h.1
  rw [show k + 49 - l.length + l.length + 1 = k + 50 by omega] at h1
  exact ⟨r, h1, h2, h3⟩
theorem sub_step {a b i o : Nat} (ho : o ≤ 1) (h : (a - b) % 2 ^ (24 * i) + b % 2 ^ (24 * i) = a % 2 ^ (24 * i) + o * 2 ^ (24 * i)) (hb : b ≤ a) :
    (dgt a i < dgt b i + o → dgt (a - b) i + dgt b i + o = dgt a i + 2 ^ 24 ∧ (a - b) % 2 ^ (24 * (i + 1)) + b % 2 ^ (24 * (i + 1)) = a % 2 ^ (24 * (i + 1)) + 1 * 2 ^ (24 * (i + 1))) ∧
    (dgt b i + o ≤ dgt a i → dgt (a - b) i + dgt b i + o = dgt a i ∧ (a - b) % 2 ^ (24 * (i + 1)) + b % 2 ^ (24 * (i + 1)) = a % 2 ^ (24 * (i + 1)) + 0 * 2 ^ (24 * (i + 1))) := by
  have hP := pow24_pos i
  have m1 := mod_step a i
  have m2 := mod_step b i
  have m3 := mod_step (a - b) i

  have q1 := Nat.div_add_mod a (2 ^ (24 * i))
  have q2 := Nat.div_add_mod b (2 ^ (24 * i))
  have q3 := Nat.div_add_mod (a - b) (2 ^ (24 * i))
  have hq : (a - b) / 2 ^ (24 * i) + b / 2 ^ (24 * i) + o = a / 2 ^ (24 * i) := by
    have e : 2 ^ (24 * i) * ((a - b) / 2 ^ (24 * i) + b / 2 ^ (24 * i) + o) = 2 ^ (24 * i) * (a / 2 ^ (24 * i)) := by
      rw [Nat.mul_add, Nat.mul_add, Nat.mul_comm (2 ^ (24 * i)) o]
      omega
    exact Nat.eq_of_mul_eq_mul_left hP e
  have d1 : dgt a i = a / 2 ^ (24 * i) % 2 ^ 24 := rfl
  have d2 : dgt b i = b / 2 ^ (24 * i) % 2 ^ 24 := rfl
  have d3 : dgt (a - b) i = (a - b) / 2 ^ (24 * i) % 2 ^ 24 := rfl
  rw [m1, m2, m3, pow24]
  have key : ∀ o', dgt (a - b) i + dgt b i + o = dgt a i + o' * 2 ^ 24 → (a - b) % 2 ^ (24 * i) + 2 ^ (24 * i) * dgt (a - b) i + (b % 2 ^ (24 * i) + 2 ^ (24 * i) * dgt b i) = a % 2 ^ (24 * i) + 2 ^ (24 * i) * dgt a i + o' * (2 ^ (24 * i) * 2 ^ 24) := by
    intro o' ho'
    have e : 2 ^ (24 * i) * (dgt (a - b) i + dgt b i + o) = 2 ^ (24 * i) * (dgt a i + o' * 2 ^ 24) := by rw [ho']
    rw [Nat.mul_add, Nat.mul_add, Nat.mul_add, Nat.mul_comm (2 ^ (24 * i)) o, Nat.mul_left_comm] at e
    omega
  refine ⟨fun hlt => ?_, fun hle => ?_⟩
  · have e : dgt (a - b) i + dgt b i + o = dgt a i + 1 * 2 ^ 24 := by omega
    exact ⟨by omega, key 1 e⟩
  · have e : dgt (a - b) i + dgt b i + o = dgt a i + 0 * 2 ^ 24 := by omega
    exact ⟨by omega, key 0 e⟩
theorem w_sub3 {x y o : Nat} (hx : x < 2 ^ 24) (hy : y < 2 ^ 24) (ho : o ≤ 1) : wrap64 (wrap64 ((x : Int) - (y : Int)) - (o : Int)) = (x : Int) - (y : Int) - (o : Int) := by
  unfold wrap64
  omega
theorem sub_l0 {la lb : List Int} {a b : Nat} (ha : Dg la a) (hb : Dg lb b) (hba : b ≤ a) (hla : la.length ≤ 45) (k : Nat) : ∀ (d i o : Nat) (out : List Int), i + d = la.length → out.length = i → Dw out ((a - b) % 2 ^ (24 * out.length)) → o ≤ 1 →
    (a - b) % 2 ^ (24 * i) + b % 2 ^ (24 * i) = a % 2 ^ (24 * i) + o * 2 ^ (24 * i) →
    ∃ r, vernierref04_Sub.l0 (k + d + 51) la lb out (o : Int) (i : Int) = some r ∧ Dg r (a - b) ∧ r.length ≤ la.length := by
  intro d
  induction d with
  | zero =>
    intro i o out hi hout hD ho h
    have hlt : a - b < 2 ^ (24 * out.length) := Nat.lt_of_le_of_lt (Nat.sub_le _ _) (by rw [show out.length = la.length by omega]; exact ha.1.1)
    rw [Nat.mod_eq_of_lt hlt] at hD
    obtain ⟨r, h1, h2, h3⟩ := cut_list hD (by omega) k
    refine ⟨r, ?_, h2, by omega⟩
    rw [show k + 0 + 51 = (k + 50) + 1 from rfl, vernierref04_Sub.l0, if_neg (by omega), h1]
    rfl
  | succ d ih =>
    intro i o out hi hout hD ho h
    have hol : out.length < 17592186044416 := by omega
    have hi5 : i ≤ 5000 := by omega
    obtain ⟨s1, s2⟩ := sub_step ho h hba
    have hd1 := ha.1.2 i (by omega)
    have hd2 := digit_val hb.1 i
    have l1 := dgt_lt a i
    have l2 := dgt_lt b i
    have l3 := dgt_lt (a - b) i
    have hlen : (out ++ [(dgt (a - b) i : Int)]).length = i + 1 := by simp [hout]
    have hDn : Dw (out ++ [(dgt (a - b) i : Int)]) ((a - b) % 2 ^ (24 * (out ++ [(dgt (a - b) i : Int)]).length)) := dw_snoc hD (by rw [hout])
    have hil : (i : Int) < (la.length : Int) := by omega
    have hi0 : (0 : Int) ≤ (i : Int) := by omega
    rw [show k + (d + 1) + 51 = (k + d + 51) + 1 by omega, vernierref04_Sub.l0, if_pos hil, if_pos hi0, hd1, hd2, Option.bind_some, w_sub3 l1 l2 ho, w_succ hi5]
    by_cases c : dgt a i < dgt b i + o
    · obtain ⟨e1, e2⟩ := s1 c
      have hneg : (dgt a i : Int) - (dgt b i : Int) - (o : Int) < 0 := by omega
      have hval : wrap64 ((dgt a i : Int) - (dgt b i : Int) - (o : Int) + 16777216) = (dgt (a - b) i : Int) := by unfold wrap64; omega
      rw [if_pos hneg, if_pos hol, hval]
      exact ih (i + 1) 1 _ (by omega) hlen hDn (by decide) e2
    · obtain ⟨e1, e2⟩ := s2 (by omega)
      have hneg : ¬ (dgt a i : Int) - (dgt b i : Int) - (o : Int) < 0 := by omega
      have hval : (dgt a i : Int) - (dgt b i : Int) - (o : Int) = (dgt (a - b) i : Int) := by omega
      rw [if_neg hneg, if_pos hol, hval]
      exact ih (i + 1) 0 _ (by omega) hlen hDn (by decide) e2
theorem sub_list {la lb : List Int} {a b : Nat} (ha : Dg la a) (hb : Dg lb b) (hba : b ≤ a) (hla : la.length ≤ 45) (k : Nat) : ∃ r, vernierref04_Sub.f (k + 100) la lb = some r ∧ Dg r (a - b) ∧ r.length ≤ la.length := by
  obtain ⟨r, h1, h2, h3⟩ := sub_l0 ha hb hba hla (k + 49 - la.length) la.length 0 0 [] (by omega) rfl (by rw [List.length_nil, Nat.mul_zero, Nat.pow_zero, Nat.mod_one]; exact dw_nil) (by decide) (by rw [Nat.mul_zero, Nat.pow_zero, Nat.mod_one, Nat.mod_one, Nat.mod_one])
  rw [show k + 49 - la.length + la.length + 51 = k + 100 by omega] at h1
  exact ⟨r, h1, h2, h3⟩
end Go.Proofs.Ytnlbfomlfhigcaa.M
namespace Go.Proofs.Ytnlbfomlfhigcaa.M
open Go.RowKit Go.Proofs.YtnlbfomlfhigcaaW.PrintWords Go.Proofs.YtnlbfomlfhigcaaW.PrintLast Go.Proofs.YtnlbfomlfhigcaaW.PrintMore Go.Proofs.Ytnlbfomlfhigcaa.Q
theorem is_yes {n : Nat} (h : Wd n) : shape_is.f (n : Int) = some true := by rcases h with rfl | rfl | rfl | rfl <;> decide +kernel
theorem of_yes {n : Nat} (h : Wd n) : shape_Of.f (n : Int) = some ((n : Int), ((2 ^ (n - 1) - 1 : Nat) : Int), 1, ((2 ^ (n - 1) : Nat) : Int), 4 * (n : Int) - 8, none) := by rcases h with rfl | rfl | rfl | rfl <;> decide +kernel
theorem mask_yes {n : Nat} (h : Wd n) : lead_Mask.f (n : Int) = some (((2 ^ n - 1 : Nat) : Int), none) := by rcases h with rfl | rfl | rfl | rfl <;> decide +kernel
theorem fold_yes {n : Nat} (h : Wd n) {x : Nat} (hx : x < 2 ^ 64) : shape_Fold.f (n : Int) (x : Int) = some (((x % 2 ^ n : Nat) : Int), none) := by
  unfold shape_Fold.f
  rw [is_yes h]
  simp only [Option.bind_some, if_true]
  rw [mask_yes h]
  simp only [Option.bind_some]
  rw [and_mask x n hx (by have := h.bd; omega)]
def knd (n y : Nat) : Nat := if y = 0 then 0 else if y = 2 ^ (n - 1) then 2 else 1
end Go.Proofs.Ytnlbfomlfhigcaa.M
namespace Go.Proofs.Ytnlbfomlfhigcaa.M
open Go.RowKit Go.Proofs.YtnlbfomlfhigcaaW.PrintWords Go.Proofs.YtnlbfomlfhigcaaW.PrintLast Go.Proofs.YtnlbfomlfhigcaaW.PrintMore Go.Proofs.Ytnlbfomlfhigcaa.Q
theorem bitLen_zero : Lib.bitLen 0 = 0 := by decide +kernel
theorem bitLen_bd {z : Nat} (h : z < 2 ^ 64) (h0 : z ≠ 0) : 1 ≤ Lib.bitLen z ∧ Lib.bitLen z ≤ 64 ∧ 2 ^ (Lib.bitLen z - 1) ≤ z ∧ z < 2 ^ Lib.bitLen z := by
  obtain ⟨a, b, c⟩ := Lib.bitLenAux_bounds 64 z h h0
  exact ⟨a, Lib.bitLen_le z 64 (by omega) h, b, c⟩
def sgn (n y : Nat) : Bool := decide (2 ^ (n - 1) ≤ y)
def mag (n y : Nat) : Nat := if 2 ^ (n - 1) ≤ y then 2 ^ n - y else y
theorem two_half {n : Nat} (h : Wd n) : 2 ^ n = 2 * 2 ^ (n - 1) := by
  have := h.bd
  rw [← Nat.pow_succ']
  exact congrArg (2 ^ ·) (by omega)
end Go.Proofs.Ytnlbfomlfhigcaa.M
namespace Go.Proofs.Ytnlbfomlfhigcaa.M
open Go.RowKit Go.Proofs.YtnlbfomlfhigcaaW.PrintWords Go.Proofs.YtnlbfomlfhigcaaW.PrintLast Go.Proofs.YtnlbfomlfhigcaaW.PrintMore Go.Proofs.Ytnlbfomlfhigcaa.Q
theorem pow_split {a b : Nat} (h : a ≤ b) : 2 ^ b = 2 ^ a * 2 ^ (b - a) := by rw [← Nat.pow_add]; exact congrArg (2 ^ ·) (by omega)
theorem shl_lo {h l j : Nat} (hl : l < 2 ^ 64) (hj : j < 64) :
    (h * 2 ^ 64 + l) * 2 ^ j % 2 ^ 128 / 2 ^ 64 = h * 2 ^ j % 2 ^ 64 + l / 2 ^ (64 - j) ∧ (h * 2 ^ 64 + l) * 2 ^ j % 2 ^ 64 = l * 2 ^ j % 2 ^ 64 := by
  have e1 : (h * 2 ^ 64 + l) * 2 ^ j = l * 2 ^ j + h * 2 ^ j * 2 ^ 64 := by rw [Nat.add_mul, Nat.mul_right_comm]; omega
  constructor
  · rw [e1, show (2 : Nat) ^ 128 = 2 ^ 64 * 2 ^ 64 from rfl, Nat.mod_mul_right_div_self, Nat.add_mul_div_right _ _ (by decide)]
    have e2 : l * 2 ^ j / 2 ^ 64 = l / 2 ^ (64 - j) := by
      rw [pow_split (show j ≤ 64 by omega), Nat.mul_comm, Nat.mul_div_mul_left _ _ (pow_pos j)]
    rw [e2]
    have h1 : l / 2 ^ (64 - j) < 2 ^ j := by
      rw [Nat.div_lt_iff_lt_mul (pow_pos _), Nat.mul_comm, ← Nat.pow_add, show 64 - j + j = 64 by omega]
      exact hl
    have h2 : h * 2 ^ j % 2 ^ 64 = h % 2 ^ (64 - j) * 2 ^ j := by
      rw [pow_split (show j ≤ 64 by omega), Nat.mul_comm (2 ^ j), Nat.mul_mod_mul_right]
    have h3 : h % 2 ^ (64 - j) < 2 ^ (64 - j) := Nat.mod_lt _ (pow_pos _)
    have h4 : (h % 2 ^ (64 - j) + 1) * 2 ^ j ≤ 2 ^ (64 - j) * 2 ^ j := Nat.mul_le_mul_right _ h3
    rw [← Nat.pow_add, show 64 - j + j = 64 by omega, Nat.add_mul, Nat.one_mul, ← h2] at h4
    rw [Nat.add_mod, Nat.mod_eq_of_lt (show l / 2 ^ (64 - j) < 2 ^ 64 by omega), Nat.mod_eq_of_lt (by omega)]
    omega
  · rw [e1, Nat.add_mul_mod_self_right]
theorem shl_hi {h l j : Nat} (hj : 64 ≤ j) : (h * 2 ^ 64 + l) * 2 ^ j % 2 ^ 128 / 2 ^ 64 = l * 2 ^ (j - 64) % 2 ^ 64 ∧ (h * 2 ^ 64 + l) * 2 ^ j % 2 ^ 64 = 0 := by
  have e : 2 ^ j = 2 ^ 64 * 2 ^ (j - 64) := pow_split hj
  have e1 : (h * 2 ^ 64 + l) * 2 ^ j = (l * 2 ^ (j - 64) + (h * 2 ^ (j - 64)) * 2 ^ 64) * 2 ^ 64 := by
    rw [e, Nat.add_mul, Nat.add_mul]
    have a1 : h * 2 ^ 64 * (2 ^ 64 * 2 ^ (j - 64)) = h * 2 ^ (j - 64) * 2 ^ 64 * 2 ^ 64 := by
      rw [Nat.mul_comm (2 ^ 64) (2 ^ (j - 64)), ← Nat.mul_assoc, Nat.mul_right_comm h]
    have a2 : l * (2 ^ 64 * 2 ^ (j - 64)) = l * 2 ^ (j - 64) * 2 ^ 64 := by rw [Nat.mul_comm (2 ^ 64), Nat.mul_assoc]
    rw [a1, a2]
    omega
  constructor
  · rw [e1, show (2 : Nat) ^ 128 = 2 ^ 64 * 2 ^ 64 from rfl, Nat.mod_mul_right_div_self, Nat.mul_div_cancel _ (by decide), Nat.add_mul_mod_self_right]
  · rw [e1, Nat.mul_mod_left]
theorem word_lt {x j : Nat} (h : x < 2 ^ 64) : x / 2 ^ j < 2 ^ 64 := Nat.lt_of_le_of_lt (Nat.div_le_self _ _) h
theorem shl_tw {h l j : Nat} (_ : h < 2 ^ 64) (hl : l < 2 ^ 64) (hj : j ≤ 128) : twin_shl.f (h : Int) (l : Int) (j : Int) =
    some ((((h * 2 ^ 64 + l) * 2 ^ j % 2 ^ 128 / 2 ^ 64 : Nat) : Int), (((h * 2 ^ 64 + l) * 2 ^ j % 2 ^ 64 : Nat) : Int)) := by
  unfold twin_shl.f
  by_cases c : 64 ≤ j
  · have hw : wrap64 ((j : Int) - 64) = ((j - 64 : Nat) : Int) := by unfold wrap64; omega
    rw [if_pos (by omega), hw, if_pos (by omega), shl_nat l (j - 64) (by omega), (shl_hi c).1, (shl_hi c).2]
    rfl
  · have hw : wrap64 (64 - (j : Int)) = ((64 - j : Nat) : Int) := by unfold wrap64; omega
    have hs := shl_lo (h := h) hl (show j < 64 by omega)
    rw [if_neg (by omega), if_pos (by omega), hw, if_pos (by omega), shl_nat h j (by omega), shl_nat l j (by omega), shr_nat l (64 - j) (by omega), hs.1, hs.2]
    have h1 : l / 2 ^ (64 - j) < 2 ^ j := by
      rw [Nat.div_lt_iff_lt_mul (pow_pos _), Nat.mul_comm, ← Nat.pow_add, show 64 - j + j = 64 by omega]
      exact hl
    have h2 : h * 2 ^ j % 2 ^ 64 % 2 ^ j = 0 := by
      rw [pow_split (show j ≤ 64 by omega), Nat.mod_mul_right_mod, Nat.mul_mod_left]
    rw [or_add _ _ j (Nat.mod_lt _ (by decide)) h1 (by omega) h2]
theorem shr_lo {h l j : Nat} (hl : l < 2 ^ 64) (hj : j < 64) :
    (h * 2 ^ 64 + l) / 2 ^ j / 2 ^ 64 = h / 2 ^ j ∧ (h * 2 ^ 64 + l) / 2 ^ j % 2 ^ 64 = h * 2 ^ (64 - j) % 2 ^ 64 + l / 2 ^ j := by
  have e1 : (h * 2 ^ 64 + l) / 2 ^ j = h * 2 ^ (64 - j) + l / 2 ^ j := by
    rw [pow_split (show j ≤ 64 by omega), Nat.mul_comm (2 ^ j), ← Nat.mul_assoc, Nat.add_comm, Nat.add_mul_div_right _ _ (pow_pos j), Nat.add_comm]
  constructor
  · rw [Nat.div_div_eq_div_mul, Nat.mul_comm (2 ^ j), ← Nat.div_div_eq_div_mul]
    congr 1
    omega
  · rw [e1]
    have h1 : l / 2 ^ j < 2 ^ (64 - j) := by
      rw [Nat.div_lt_iff_lt_mul (pow_pos _), ← Nat.pow_add, show 64 - j + j = 64 by omega]
      exact hl
    have h2 : h * 2 ^ (64 - j) % 2 ^ 64 = h % 2 ^ j * 2 ^ (64 - j) := by
      rw [pow_split (show j ≤ 64 by omega), Nat.mul_mod_mul_right]
    have h3 : h % 2 ^ j < 2 ^ j := Nat.mod_lt _ (pow_pos _)
    have h4 : (h % 2 ^ j + 1) * 2 ^ (64 - j) ≤ 2 ^ j * 2 ^ (64 - j) := Nat.mul_le_mul_right _ h3
    rw [← Nat.pow_add, show j + (64 - j) = 64 by omega, Nat.add_mul, Nat.one_mul, ← h2] at h4
    rw [Nat.add_mod, Nat.mod_eq_of_lt (show l / 2 ^ j < 2 ^ 64 from word_lt hl), Nat.mod_eq_of_lt (by omega)]
theorem shr_tw {h l j : Nat} (_ : h < 2 ^ 64) (hl : l < 2 ^ 64) (hj : j < 64) : twin_shr.f (h : Int) (l : Int) (j : Int) =
    some ((((h * 2 ^ 64 + l) / 2 ^ j / 2 ^ 64 : Nat) : Int), (((h * 2 ^ 64 + l) / 2 ^ j % 2 ^ 64 : Nat) : Int)) := by
  unfold twin_shr.f
  have hw : wrap64 (64 - (j : Int)) = ((64 - j : Nat) : Int) := by unfold wrap64; omega
  have hs := shr_lo (h := h) hl hj
  rw [if_neg (by omega), if_pos (by omega), hw, if_pos (by omega), shr_nat h j (by omega), shr_nat l j (by omega), shl_nat h (64 - j) (by omega), hs.1, hs.2]
  have h1 : l / 2 ^ j < 2 ^ (64 - j) := by
    rw [Nat.div_lt_iff_lt_mul (pow_pos _), ← Nat.pow_add, show 64 - j + j = 64 by omega]
    exact hl
  have h2 : h * 2 ^ (64 - j) % 2 ^ 64 % 2 ^ (64 - j) = 0 := by
    rw [pow_split (show 64 - j ≤ 64 by omega), Nat.mod_mul_right_mod, Nat.mul_mod_left]
  have h3 := or_add (h * 2 ^ (64 - j) % 2 ^ 64) (l / 2 ^ j) (64 - j) (Nat.mod_lt _ (by decide)) h1 (by omega) h2
  rw [or_nat _ _ (Nat.mod_lt _ (by decide)) (word_lt hl)] at h3
  rw [or_nat _ _ (word_lt hl) (Nat.mod_lt _ (by decide)), Nat.or_comm, h3]
theorem len_tw {h l : Nat} (hh : h < 2 ^ 64) (hl : l < 2 ^ 64) : ∃ b : Nat, b ≤ 128 ∧ twin_Len.f (h : Int) (l : Int) = some (b : Int) ∧
    ((h * 2 ^ 64 + l = 0 ∧ b = 0) ∨ (1 ≤ b ∧ 2 ^ (b - 1) ≤ h * 2 ^ 64 + l ∧ h * 2 ^ 64 + l < 2 ^ b)) := by
  unfold twin_Len.f bits_Len64.f
  rw [p64] at hh hl
  by_cases c : h = 0
  · subst c
    rw [if_neg (by omega), if_pos (by omega), Int.toNat_natCast]
    simp only [Option.bind_some]
    refine ⟨Lib.bitLen l, by have := Lib.bitLen_le l 64 (by omega) (by rw [p64]; omega); omega, rfl, ?_⟩
    by_cases c2 : l = 0
    · subst c2; left; exact ⟨rfl, bitLen_zero⟩
    · right
      obtain ⟨b1, b2, b3, b4⟩ := bitLen_bd (z := l) (by rw [p64]; omega) c2
      rw [Nat.zero_mul, Nat.zero_add]
      exact ⟨b1, b3, b4⟩
  · rw [if_pos (by omega), if_pos (by omega), Int.toNat_natCast]
    simp only [Option.bind_some]
    obtain ⟨b1, b2, b3, b4⟩ := bitLen_bd (z := h) (by rw [p64]; omega) c
    refine ⟨64 + Lib.bitLen h, by omega, ?_, .inr ⟨by omega, ?_, ?_⟩⟩
    · congr 1; unfold wrap64; omega
    · rw [show 64 + Lib.bitLen h - 1 = (Lib.bitLen h - 1) + 64 by omega, Nat.pow_add]
      generalize 2 ^ (Lib.bitLen h - 1) = q at *
      omega
    · rw [Nat.pow_add]
      generalize 2 ^ Lib.bitLen h = q at *
      omega
theorem Shl_tw {h l j : Nat} (hh : h < 2 ^ 64) (hl : l < 2 ^ 64) (hj : j ≤ 128) : ∃ b, twin_Shl.f (h : Int) (l : Int) (j : Int) =
    some ((((h * 2 ^ 64 + l) * 2 ^ j % 2 ^ 128 / 2 ^ 64 : Nat) : Int), (((h * 2 ^ 64 + l) * 2 ^ j % 2 ^ 64 : Nat) : Int), b, none) := by
  unfold twin_Shl.f
  have hm : mn (j : Int) 128 = (j : Int) := by unfold mn; rw [if_neg (by omega)]
  obtain ⟨b, _, hb, _⟩ := len_tw hh hl
  rw [if_neg (by omega), hm, shl_tw hh hl hj, hb]
  exact ⟨_, rfl⟩
theorem Shr_tw {h l j : Nat} (hh : h < 2 ^ 64) (hl : l < 2 ^ 64) (hj : j < 64) : twin_Shr.f (h : Int) (l : Int) (j : Int) =
    some ((((h * 2 ^ 64 + l) / 2 ^ j / 2 ^ 64 : Nat) : Int), (((h * 2 ^ 64 + l) / 2 ^ j % 2 ^ 64 : Nat) : Int), decide ((h * 2 ^ 64 + l) % 2 ^ j ≠ 0), none) := by
  unfold twin_Shr.f
  have hm : mn (j : Int) 128 = (j : Int) := by unfold mn; rw [if_neg (by omega)]
  have hW : h * 2 ^ 64 + l < 2 ^ 128 := by omega
  rw [if_neg (by omega), hm, shr_tw hh hl hj]
  simp only [Option.bind_some]
  generalize hWe : h * 2 ^ 64 + l = W at *
  have h1 : W / 2 ^ j < 2 ^ 128 := Nat.lt_of_le_of_lt (Nat.div_le_self _ _) hW
  rw [shl_tw (j := j) (by omega) (Nat.mod_lt _ (by decide)) (by omega)]
  simp only [Option.bind_some]
  have hd : W / 2 ^ j / 2 ^ 64 * 2 ^ 64 + W / 2 ^ j % 2 ^ 64 = W / 2 ^ j := by rw [Nat.mul_comm]; exact Nat.div_add_mod _ _
  rw [hd]
  have hdm := Nat.div_add_mod W (2 ^ j)
  rw [Nat.mul_comm] at hdm
  generalize W / 2 ^ j * 2 ^ j = X at *
  have hX : X % 2 ^ 128 = X := Nat.mod_eq_of_lt (by omega)
  rw [hX]
  congr 4
  by_cases c : W % 2 ^ j = 0
  · have e : X = h * 2 ^ 64 + l := by omega
    rw [decide_eq_false (by omega)]
    have a1 : X / 2 ^ 64 = h := by omega
    have a2 : X % 2 ^ 64 = l := by omega
    rw [a1, a2]
    simp
  · rw [decide_eq_true c]
    have : ¬ (X / 2 ^ 64 = h ∧ X % 2 ^ 64 = l) := by omega
    by_cases d : X / 2 ^ 64 = h
    · have : ((X % 2 ^ 64 : Nat) : Int) ≠ (l : Int) := by omega
      rw [beq_eq_false_iff_ne.mpr this]
      simp
    · have : ((X / 2 ^ 64 : Nat) : Int) ≠ (h : Int) := by omega
      rw [beq_eq_false_iff_ne.mpr this]
      simp
end Go.Proofs.Ytnlbfomlfhigcaa.M
namespace Go.Proofs.Ytnlbfomlfhigcaa.M
open Go.RowKit Go.Proofs.YtnlbfomlfhigcaaW.PrintWords Go.Proofs.YtnlbfomlfhigcaaW.PrintLast Go.Proofs.YtnlbfomlfhigcaaW.PrintMore Go.Proofs.Ytnlbfomlfhigcaa.Q
def q4 (a b c d : Nat) : Nat := ((a * 2 ^ 64 + b) * 2 ^ 64 + c) * 2 ^ 64 + d
theorem q4_lt {a b c d : Nat} (ha : a < 2 ^ 64) (hb : b < 2 ^ 64) (hc : c < 2 ^ 64) (hd : d < 2 ^ 64) : q4 a b c d < 2 ^ 256 := by
  unfold q4
  omega
theorem w64_nat {a : Nat} (h : a < 2 ^ 64) : w64 (a : Int) := by
  unfold w64
  omega
theorem addW_nat (x y c : Nat) : addW (x : Int) (y : Int) (c : Int) = ((((x + y + c) % 2 ^ 64 : Nat) : Int), (((x + y + c) / 2 ^ 64 : Nat) : Int)) := by
  unfold addW
  ext <;> simp
theorem plus_val {a b c d a' b' c' d' : Nat} (ha : a < 2 ^ 64) (hb : b < 2 ^ 64) (hc : c < 2 ^ 64) (hd : d < 2 ^ 64) (ha' : a' < 2 ^ 64) (hb' : b' < 2 ^ 64) (hc' : c' < 2 ^ 64) (hd' : d' < 2 ^ 64) :
    ∃ e f g h o : Nat, broad_wide_plus.f (a : Int) (b : Int) (c : Int) (d : Int) (a' : Int) (b' : Int) (c' : Int) (d' : Int) = some ((e : Int), (f : Int), (g : Int), (h : Int), (o : Int)) ∧
      e < 2 ^ 64 ∧ f < 2 ^ 64 ∧ g < 2 ^ 64 ∧ h < 2 ^ 64 ∧ o ≤ 1 ∧ q4 e f g h + o * 2 ^ 256 = q4 a b c d + q4 a' b' c' d' := by
  have h0 : (0 : Int) = ((0 : Nat) : Int) := rfl
  refine ⟨_, _, _, _, _, ?_, Nat.mod_lt (a + a' + (b + b' + (c + c' + (d + d' + 0) / 2 ^ 64) / 2 ^ 64) / 2 ^ 64) (by decide), Nat.mod_lt (b + b' + (c + c' + (d + d' + 0) / 2 ^ 64) / 2 ^ 64) (by decide), Nat.mod_lt (c + c' + (d + d' + 0) / 2 ^ 64) (by decide), Nat.mod_lt (d + d' + 0) (by decide), (show (a + a' + (b + b' + (c + c' + (d + d' + 0) / 2 ^ 64) / 2 ^ 64) / 2 ^ 64) / 2 ^ 64 ≤ 1 by omega), ?_⟩
  · unfold broad_wide_plus.f
    rw [if_pos ⟨w64_nat ha, w64_nat hb, w64_nat hc, w64_nat hd, w64_nat ha', w64_nat hb', w64_nat hc', w64_nat hd'⟩, h0]
    simp only [addW_nat]
  · unfold q4
    omega
theorem subW_nat {x y c : Nat} (hx : x < 2 ^ 64) (hy : y < 2 ^ 64) (hc : c ≤ 1) : subW (x : Int) (y : Int) (c : Int) = ((((x + 2 ^ 64 - y - c) % 2 ^ 64 : Nat) : Int), (((if x < y + c then 1 else 0 : Nat)) : Int)) := by
  unfold subW
  ext
  · simp only
    omega
  · simp only
    by_cases h : x < y + c
    · rw [if_pos h, if_pos (by omega)]
      rfl
    · rw [if_neg h, if_neg (by omega)]
      rfl
theorem less_val {a b c d a' b' c' d' o : Nat} (ha : a < 2 ^ 64) (hb : b < 2 ^ 64) (hc : c < 2 ^ 64) (hd : d < 2 ^ 64) (ha' : a' < 2 ^ 64) (hb' : b' < 2 ^ 64) (hc' : c' < 2 ^ 64) (hd' : d' < 2 ^ 64) (ho : o ≤ 1) :
    ∃ e f g h p : Nat, broad_wide_less.f (a : Int) (b : Int) (c : Int) (d : Int) (a' : Int) (b' : Int) (c' : Int) (d' : Int) (o : Int) = some ((e : Int), (f : Int), (g : Int), (h : Int), (p : Int)) ∧
      e < 2 ^ 64 ∧ f < 2 ^ 64 ∧ g < 2 ^ 64 ∧ h < 2 ^ 64 ∧ p ≤ 1 ∧ q4 e f g h + q4 a' b' c' d' + o = q4 a b c d + p * 2 ^ 256 := by
  have hp1 : (if d < d' + o then 1 else 0 : Nat) ≤ 1 := by split <;> omega
  generalize hP1 : (if d < d' + o then 1 else 0 : Nat) = p1 at hp1
  have hp2 : (if c < c' + p1 then 1 else 0 : Nat) ≤ 1 := by split <;> omega
  generalize hP2 : (if c < c' + p1 then 1 else 0 : Nat) = p2 at hp2
  have hp3 : (if b < b' + p2 then 1 else 0 : Nat) ≤ 1 := by split <;> omega
  generalize hP3 : (if b < b' + p2 then 1 else 0 : Nat) = p3 at hp3
  have hp4 : (if a < a' + p3 then 1 else 0 : Nat) ≤ 1 := by split <;> omega
  generalize hP4 : (if a < a' + p3 then 1 else 0 : Nat) = p4 at hp4
  refine ⟨(a + 2 ^ 64 - a' - p3) % 2 ^ 64, (b + 2 ^ 64 - b' - p2) % 2 ^ 64, (c + 2 ^ 64 - c' - p1) % 2 ^ 64, (d + 2 ^ 64 - d' - o) % 2 ^ 64, p4, ?_, Nat.mod_lt _ (by decide), Nat.mod_lt _ (by decide), Nat.mod_lt _ (by decide), Nat.mod_lt _ (by decide), hp4, ?_⟩
  · unfold broad_wide_less.f
    rw [if_pos ⟨w64_nat ha, w64_nat hb, w64_nat hc, w64_nat hd, w64_nat ha', w64_nat hb', w64_nat hc', w64_nat hd', by omega, by omega⟩]
    rw [subW_nat hd hd' ho, hP1]
    simp only
    rw [subW_nat hc hc' hp1, hP2]
    simp only
    rw [subW_nat hb hb' hp2, hP3]
    simp only
    rw [subW_nat ha ha' hp3, hP4]
  · have e1 : (d + 2 ^ 64 - d' - o) % 2 ^ 64 + d' + o = d + p1 * 2 ^ 64 := by
      rw [← hP1]; split <;> omega
    have e2 : (c + 2 ^ 64 - c' - p1) % 2 ^ 64 + c' + p1 = c + p2 * 2 ^ 64 := by
      rw [← hP2]; split <;> omega
    have e3 : (b + 2 ^ 64 - b' - p2) % 2 ^ 64 + b' + p2 = b + p3 * 2 ^ 64 := by
      rw [← hP3]; split <;> omega
    have e4 : (a + 2 ^ 64 - a' - p3) % 2 ^ 64 + a' + p3 = a + p4 * 2 ^ 64 := by
      rw [← hP4]; split <;> omega
    clear hP1 hP2 hP3 hP4
    generalize (d + 2 ^ 64 - d' - o) % 2 ^ 64 = x1 at *
    generalize (c + 2 ^ 64 - c' - p1) % 2 ^ 64 = x2 at *
    generalize (b + 2 ^ 64 - b' - p2) % 2 ^ 64 = x3 at *
    generalize (a + 2 ^ 64 - a' - p3) % 2 ^ 64 = x4 at *
    unfold q4
    omega
end Go.Proofs.Ytnlbfomlfhigcaa.M
