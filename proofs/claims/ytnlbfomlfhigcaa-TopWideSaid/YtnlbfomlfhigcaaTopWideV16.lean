/- Walks and plain laws that the claim stands on: each theorem named calls says that a call of a function returns what its f computes; the others are plain laws of these f, and the words that the walks use. -/
import Derived.Test.YtnlbfomlfhigcaaTopWideV15
import Derived.Test.YtnlbfomlfhigcaaTopWideV2
import Derived.Test.YtnlbfomlfhigcaaTopWideV7
import Derived.Test.YtnlbfomlfhigcaaTopWideV13
import Derived.Test.YtnlbfomlfhigcaaTopWideV11
import Derived.Test.YtnlbfomlfhigcaaTopWideV12
namespace Go.Proofs.Ytnlbfomlfhigcaa.M
open Go.RowKit Go.Proofs.YtnlbfomlfhigcaaW.PrintWords Go.Proofs.YtnlbfomlfhigcaaW.PrintLast Go.Proofs.YtnlbfomlfhigcaaW.PrintMore Go.Proofs.Ytnlbfomlfhigcaa.Q
theorem j0_str {n : Nat} (hn : Wd n) (neg b : Bool) {s : Int} {h l : Nat} (hh : 2 ^ 63 ≤ h) (hh2 : h < 2 ^ 64) (hl : l < 2 ^ 64) (h1 : 8 - 4 * (n : Int) ≤ s) (h2 : s < 4 * (n : Int) - 8) (k : Nat) :
    round_Cut.j0 (k + 80) (n : Int) 1 neg s (h : Int) (l : Int) b = some (((str s (h * 2 ^ 64 + l) / 2 ^ (201 - n) : Nat) : Int), ((lft n (str s (h * 2 ^ 64 + l)) b : Nat) : Int), none) := by
  have hb := hn.bd
  have hF : h * 2 ^ 64 + l < 2 ^ 128 := by omega
  have hX : h * 2 ^ 64 + l - 2 ^ 127 < 2 ^ 127 := by omega
  obtain ⟨bb, hS⟩ := shl_first hh hh2 hl
  have hu1 := under_exp (e := (s % 4).toNat) b hX (by omega)
  have ht := tl_lt (s := s) hF
  have e1 : (s % 4).toNat * 2 ^ 127 + (h * 2 ^ 64 + l - 2 ^ 127) = tl s (h * 2 ^ 64 + l) := rfl
  rw [e1] at hu1
  rw [show k + 80 = (k + 79) + 1 from rfl, round_Cut.j0, hS, and3]
  simp only [Option.bind_some]
  rw [hu1]
  simp only [Option.bind_some]
  clear hu1 hS e1 hX
  by_cases h0 : 0 ≤ s / 4
  · obtain ⟨q, hq⟩ := Int.eq_ofNat_of_zero_le h0
    rw [if_pos h0, under_end0 b ht, hq, Option.bind_some]
    exact lay_ones hn b hF hq (by omega) k
  · obtain ⟨r, hr⟩ : ∃ r : Nat, s / 4 = -(r : Int) := ⟨(-(s / 4)).toNat, by omega⟩
    rw [if_neg h0, under_end1 b ht, hr, Option.bind_some]
    exact lay_zeros hn b hF hr (by omega) (by omega) k
theorem tl_least {s : Int} (h : s % 4 = 0) : tl s (2 ^ 127) = 0 := by
  unfold tl
  rw [h, Nat.sub_self]
  rfl
theorem held_val (s : Int) : round_held.f s = some (if s < -1099511627776 then -1099511627776 else if 1099511627776 < s then 1099511627776 else s) := by
  unfold round_held.f mx mn
  congr 1
  split <;> split <;> (try split) <;> (try split) <;> omega
theorem sound_real (k : Nat) (neg b : Bool) {s : Int} {h l : Nat} (hh : 2 ^ 63 ≤ h) (hh2 : h < 2 ^ 64) (h1 : -1099511627776 ≤ s) (h2 : s ≤ 1099511627776) : round_sound.f (k + 1) 1 neg s (h : Int) (l : Int) b = some true := by
  unfold round_sound.f
  rw [if_neg (by decide), round_sound.j0, if_neg (by decide), if_pos rfl, if_pos (by rw [p63] at hh; rw [p64] at hh2; omega), held_val, if_neg (by omega), if_neg (by omega)]
  simp
theorem sound_zero (k : Nat) : round_sound.f (k + 1) 0 false 0 0 0 false = some true := by
  unfold round_sound.f
  rw [if_pos rfl, round_sound.j0, if_pos (by decide)]
  rfl
theorem sound_nar (k : Nat) : round_sound.f (k + 1) 2 false 0 0 0 false = some true := by
  unfold round_sound.f
  rw [if_neg (by decide), round_sound.j0, if_pos (by decide)]
  rfl
theorem rnd_lft {n Y : Nat} (hn : Wd n) (b : Bool) : rnd (2 ^ (202 - n)) (2 * Y + b.toNat) = if lft n Y b = 3 ∨ (lft n Y b = 2 ∧ Y / 2 ^ (201 - n) % 2 = 1) then Y / 2 ^ (201 - n) + 1 else Y / 2 ^ (201 - n) := by
  have hbb := toNat_le b
  rw [(unit_eq hn).2]
  have hp := pow_pos (201 - n)
  have hd : (2 * Y + b.toNat) / (2 * 2 ^ (201 - n)) = Y / 2 ^ (201 - n) := by
    rw [← Nat.div_div_eq_div_mul]
    congr 1
    omega
  have hm : (2 * Y + b.toNat) % (2 * 2 ^ (201 - n)) = 2 * (Y % 2 ^ (201 - n)) + b.toNat := by
    have a1 := Nat.div_add_mod (2 * Y + b.toNat) (2 * 2 ^ (201 - n))
    have a2 := Nat.div_add_mod Y (2 ^ (201 - n))
    rw [hd, Nat.mul_assoc] at a1
    omega
  unfold rnd lft
  rw [hd, hm]
  generalize 2 * (Y % 2 ^ (201 - n)) + b.toNat = z
  generalize Y / 2 ^ (201 - n) = q
  generalize 2 ^ (201 - n) = d
  by_cases c1 : d < z
  · rw [if_pos (.inl (by omega)), if_pos c1, if_pos (.inl rfl)]
  · rw [if_neg c1]
    by_cases c2 : d = z
    · rw [if_pos c2]
      by_cases c3 : q % 2 = 1
      · rw [if_pos (.inr ⟨by omega, c3⟩), if_pos (.inr ⟨rfl, c3⟩)]
      · rw [if_neg (by omega), if_neg (by omega)]
    · rw [if_neg c2, if_neg (by omega)]
      split <;> rw [if_neg (by omega)]
def sg (n : Nat) (neg : Bool) (p : Nat) : Nat := if neg then 2 ^ n - p else p
theorem fold_sg {n : Nat} (hn : Wd n) (neg : Bool) {p : Nat} (h1 : 1 ≤ p) (h2 : p < 2 ^ (n - 1)) :
    (if neg = true then (shape_Fold.f (n : Int) (IntKind.u64.wrap (-(p : Int)))).bind (fun bt => some (bt.1, bt.2)) else (shape_Fold.f (n : Int) (p : Int)).bind (fun bt => some (bt.1, bt.2))) = some (((sg n neg p : Nat) : Int), none) := by
  have hb := hn.bd
  have e := two_half hn
  have hn64 : 2 ^ n ≤ 2 ^ 64 := pow_le hb.2
  cases neg with
  | true =>
    rw [if_pos rfl, show IntKind.u64.wrap (-(p : Int)) = ((2 ^ 64 - p : Nat) : Int) by rw [u64w, p64]; rw [p64] at hn64; omega, fold_yes hn (by omega)]
    have : (2 ^ 64 - p) % 2 ^ n = 2 ^ n - p := by
      rw [pow_split (show n ≤ 64 from hb.2)]
      have hq := pow_pos (64 - n)
      generalize 2 ^ (64 - n) = q at *
      obtain ⟨q, rfl⟩ : ∃ z, q = z + 1 := ⟨q - 1, by omega⟩
      rw [Nat.mul_succ, show 2 ^ n * q + 2 ^ n - p = (2 ^ n - p) + 2 ^ n * q by omega, Nat.add_mul_mod_self_left, Nat.mod_eq_of_lt (by omega)]
    rw [this]
    rfl
  | false =>
    rw [if_neg (by decide), fold_yes hn (by omega), Nat.mod_eq_of_lt (by omega)]
    rfl
theorem round_real {n : Nat} (hn : Wd n) (neg b : Bool) {s : Int} {h l : Nat} (hh : 2 ^ 63 ≤ h) (hh2 : h < 2 ^ 64) (hl : l < 2 ^ 64) (h1 : -1099511627776 ≤ s) (h2 : s ≤ 1099511627776) (k : Nat) :
    round_Round.f (k + 80) (n : Int) 1 neg s (h : Int) (l : Int) b = some (((sg n neg (rpos n s (h * 2 ^ 64 + l) b) : Nat) : Int), none) := by
  have hb := hn.bd
  have hF : 2 ^ 127 ≤ h * 2 ^ 64 + l ∧ h * 2 ^ 64 + l < 2 ^ 128 := by omega
  have hR := rpos_bd hn s b hF.2
  have hsn : wrap64 (-(4 * (n : Int) - 8)) = 8 - 4 * (n : Int) := by unfold wrap64; omega
  have hq2 : 2 ≤ 2 ^ (n - 1) := by have : 2 ^ 1 ≤ 2 ^ (n - 1) := pow_le (by omega); omega

  have hcut : ∃ P L : Nat, round_Cut.f (k + 80) (n : Int) 1 neg s (h : Int) (l : Int) b = some ((P : Int), (L : Int), none) ∧ P < 2 ^ (n - 1) ∧ rpos n s (h * 2 ^ 64 + l) b = if L = 3 ∨ (L = 2 ∧ P % 2 = 1) then P + 1 else P := by
    unfold round_Cut.f
    rw [of_yes hn]
    simp only [Option.bind_some, Option.isNone_none, if_true]
    rw [sound_real (k + 79) neg b hh hh2 h1 h2]
    simp only [Option.bind_some, if_true]
    rw [if_neg (by decide), if_neg (by decide), hsn]
    by_cases c1 : 4 * (n : Int) - 8 ≤ s
    · rw [if_pos c1]
      refine ⟨2 ^ (n - 1) - 1, 0, rfl, by omega, ?_⟩
      unfold rpos
      rw [if_pos c1, if_neg (by omega)]
    · rw [if_neg (by omega)]
      by_cases c2 : s < 8 - 4 * (n : Int)
      · rw [if_pos c2]
        refine ⟨1, 0, rfl, by omega, ?_⟩
        unfold rpos
        rw [if_neg c1, if_pos c2, if_neg (by omega)]
      · rw [if_neg c2]
        have hj := j0_str hn neg b hh hh2 hl (show 8 - 4 * (n : Int) ≤ s by omega) (by omega) k
        have hin := rnd_in hn b (s := s) (F := h * 2 ^ 64 + l) (by omega) (by omega) hF.2
        have hrl := rnd_lft (Y := str s (h * 2 ^ 64 + l)) hn b
        have hbd := rnd_bd (2 ^ (202 - n)) (2 * str s (h * 2 ^ 64 + l) + b.toNat)
        have hd : (2 * str s (h * 2 ^ 64 + l) + b.toNat) / 2 ^ (202 - n) = str s (h * 2 ^ 64 + l) / 2 ^ (201 - n) := by
          rw [(unit_eq hn).2, ← Nat.div_div_eq_div_mul]
          have := toNat_le b
          congr 1
          omega
        have hfin : ∃ P L : Nat, round_Cut.j0 (k + 80) (n : Int) 1 neg s (h : Int) (l : Int) b = some ((P : Int), (L : Int), none) ∧ P < 2 ^ (n - 1) ∧ rpos n s (h * 2 ^ 64 + l) b = if L = 3 ∨ (L = 2 ∧ P % 2 = 1) then P + 1 else P := by
          refine ⟨_, _, hj, by omega, ?_⟩
          unfold rpos
          rw [if_neg c1, if_neg c2, hrl]
        by_cases c3 : s = 8 - 4 * (n : Int)
        · rw [if_pos c3]
          by_cases c4 : (h : Int) = 9223372036854775808
          · rw [if_pos c4]
            by_cases c5 : (l : Int) = 0
            · rw [if_pos c5]
              cases b with
              | true => rw [if_pos rfl]; exact hfin
              | false =>
                rw [if_neg (by decide)]
                refine ⟨1, 0, rfl, by omega, ?_⟩
                rw [if_neg (by omega)]
                unfold rpos
                rw [if_neg c1, if_neg c2]
                have hF2 : h * 2 ^ 64 + l = 2 ^ 127 := by omega
                have hr : s / 4 = -((n - 2 : Nat) : Int) := by omega
                rw [hF2, str_neg hr (by omega)]
                have ht : tl s (2 ^ 127) = 0 := tl_least (by omega)
                rw [ht, Nat.zero_mul, Nat.add_zero]
                have e1 : 2 * (2 ^ 129 * 2 ^ (70 - (n - 2))) + false.toNat = 1 * 2 ^ (202 - n) := by
                  rw [← Nat.pow_add, Nat.one_mul, show 129 + (70 - (n - 2)) = 201 - n by omega, (unit_eq hn).2]
                  rfl
                rw [e1]
                exact rnd_mul (pow_pos _)
            · rw [if_neg c5]; exact hfin
          · rw [if_neg c4]; exact hfin
        · rw [if_neg c3]; exact hfin
  obtain ⟨P, L, hc, hP, hrp⟩ := hcut
  unfold round_Round.f
  rw [hc]
  simp only [Option.bind_some, Option.isNone_none, if_true]
  have hn64 : 2 ^ (n - 1) ≤ 2 ^ 63 := pow_le (by omega)
  have hand : Go.bits .and .u64 (P : Int) 1 = ((P % 2 : Nat) : Int) := and_mask P 1 (by omega) (by omega)
  have hup : IntKind.u64.wrap ((P : Int) + 1) = ((P + 1 : Nat) : Int) := by rw [u64w]; rw [p63] at hn64; omega
  rw [hand, hup]
  have key : ∀ p : Nat, rpos n s (h * 2 ^ 64 + l) b = p → (if neg = true then (shape_Fold.f (n : Int) (IntKind.u64.wrap (-(p : Int)))).bind (fun bt => some (bt.1, bt.2)) else (shape_Fold.f (n : Int) (p : Int)).bind (fun bt => some (bt.1, bt.2))) = some (((sg n neg (rpos n s (h * 2 ^ 64 + l) b) : Nat) : Int), none) := by
    rintro p rfl
    exact fold_sg hn neg hR.1 (by omega)
  by_cases c2 : (L : Int) = 2
  · rw [if_pos c2]
    by_cases c3 : ((P % 2 : Nat) : Int) = 0
    · rw [if_pos c3]
      exact key P (by rw [hrp, if_neg (by omega)])
    · rw [if_neg c3]
      exact key (P + 1) (by rw [hrp, if_pos (by omega)])
  · rw [if_neg c2]
    by_cases c3 : (L : Int) = 3
    · rw [if_pos c3]
      exact key (P + 1) (by rw [hrp, if_pos (by omega)])
    · rw [if_neg c3]
      exact key P (by rw [hrp, if_neg (by omega)])
theorem round_zero {n : Nat} (hn : Wd n) (k : Nat) : round_Round.f (k + 1) (n : Int) 0 false 0 0 0 false = some (0, none) := by
  unfold round_Round.f round_Cut.f
  rw [of_yes hn]
  simp only [Option.bind_some, Option.isNone_none, if_true]
  rw [sound_zero k]
  simp only [Option.bind_some, if_true, Option.isNone_none]
  rw [if_neg (by decide), if_neg (by decide), if_neg (by decide)]
  have := fold_yes hn (x := 0) (by decide)
  rw [Nat.zero_mod] at this
  have h2 : shape_Fold.f (n : Int) 0 = some (0, none) := this
  rw [h2]
  rfl
theorem round_nar {n : Nat} (hn : Wd n) (k : Nat) : round_Round.f (k + 1) (n : Int) 2 false 0 0 0 false = some (((2 ^ (n - 1) : Nat) : Int), none) := by
  have hb := hn.bd
  have e := two_half hn
  have hp := pow_pos (n - 1)
  unfold round_Round.f round_Cut.f
  rw [of_yes hn]
  simp only [Option.bind_some, Option.isNone_none, if_true]
  rw [sound_nar k]
  simp only [Option.bind_some, if_true]
  rw [if_neg (by decide)]
  simp only [Option.bind_some, Option.isNone_none, if_true]
  rw [if_neg (by decide), if_neg (by decide), if_neg (by decide)]
  have hn64 : 2 ^ n ≤ 2 ^ 64 := pow_le hb.2
  rw [fold_yes hn (x := 2 ^ (n - 1)) (by omega), Nat.mod_eq_of_lt (by omega)]
  rfl
end Go.Proofs.Ytnlbfomlfhigcaa.M
namespace Go.Proofs.Ytnlbfomlfhigcaa.Q
open Go.RowKit Go.Proofs.YtnlbfomlfhigcaaW.PrintWords Go.Proofs.YtnlbfomlfhigcaaW.PrintLast Go.Proofs.YtnlbfomlfhigcaaW.PrintMore
attribute [local go_sem] max2_int min2_int max_two min_two max_three min_three max_four min_four
set_option linter.unusedVariables false
set_option linter.unusedSimpArgs false
end Go.Proofs.Ytnlbfomlfhigcaa.Q
namespace Go.Proofs.Ytnlbfomlfhigcaa.Q
open Go.RowKit Go.Proofs.YtnlbfomlfhigcaaW.PrintWords Go.Proofs.YtnlbfomlfhigcaaW.PrintLast Go.Proofs.YtnlbfomlfhigcaaW.PrintMore
attribute [local go_sem] max2_int min2_int max_two min_two max_three min_three max_four min_four
set_option linter.unusedVariables false
set_option linter.unusedSimpArgs false
end Go.Proofs.Ytnlbfomlfhigcaa.Q
namespace Go.Proofs.Ytnlbfomlfhigcaa.Q
open Go.RowKit Go.Proofs.YtnlbfomlfhigcaaW.PrintWords Go.Proofs.YtnlbfomlfhigcaaW.PrintLast Go.Proofs.YtnlbfomlfhigcaaW.PrintMore
attribute [local go_sem] max2_int min2_int max_two min_two max_three min_three max_four min_four
set_option linter.unusedVariables false
set_option linter.unusedSimpArgs false
end Go.Proofs.Ytnlbfomlfhigcaa.Q
namespace Go.Proofs.Ytnlbfomlfhigcaa.Q
open Go.RowKit Go.Proofs.YtnlbfomlfhigcaaW.PrintWords Go.Proofs.YtnlbfomlfhigcaaW.PrintLast Go.Proofs.YtnlbfomlfhigcaaW.PrintMore
attribute [local go_sem] max2_int min2_int max_two min_two max_three min_three max_four min_four
set_option linter.unusedVariables false
set_option linter.unusedSimpArgs false
end Go.Proofs.Ytnlbfomlfhigcaa.Q
namespace Go.Proofs.Ytnlbfomlfhigcaa.Q
open Go.RowKit Go.Proofs.YtnlbfomlfhigcaaW.PrintWords Go.Proofs.YtnlbfomlfhigcaaW.PrintLast Go.Proofs.YtnlbfomlfhigcaaW.PrintMore
attribute [local go_sem] max2_int min2_int max_two min_two max_three min_three max_four min_four
set_option linter.unusedVariables false
set_option linter.unusedSimpArgs false
end Go.Proofs.Ytnlbfomlfhigcaa.Q
namespace Go.Proofs.Ytnlbfomlfhigcaa.Q
open Go.RowKit Go.Proofs.YtnlbfomlfhigcaaW.PrintWords Go.Proofs.YtnlbfomlfhigcaaW.PrintLast Go.Proofs.YtnlbfomlfhigcaaW.PrintMore
attribute [local go_sem] max2_int min2_int max_two min_two max_three min_three max_four min_four
set_option linter.unusedVariables false
set_option linter.unusedSimpArgs false
end Go.Proofs.Ytnlbfomlfhigcaa.Q
namespace Go.Proofs.Ytnlbfomlfhigcaa.Q
open Go.RowKit Go.Proofs.YtnlbfomlfhigcaaW.PrintWords Go.Proofs.YtnlbfomlfhigcaaW.PrintLast Go.Proofs.YtnlbfomlfhigcaaW.PrintMore
attribute [local go_sem] max2_int min2_int max_two min_two max_three min_three max_four min_four
set_option linter.unusedVariables false
set_option linter.unusedSimpArgs false
end Go.Proofs.Ytnlbfomlfhigcaa.Q
namespace Go.Proofs.Ytnlbfomlfhigcaa.Q
open Go.RowKit Go.Proofs.YtnlbfomlfhigcaaW.PrintWords Go.Proofs.YtnlbfomlfhigcaaW.PrintLast Go.Proofs.YtnlbfomlfhigcaaW.PrintMore
attribute [local go_sem] max2_int min2_int max_two min_two max_three min_three max_four min_four
set_option linter.unusedVariables false
set_option linter.unusedSimpArgs false
end Go.Proofs.Ytnlbfomlfhigcaa.Q
namespace Go.Proofs.Ytnlbfomlfhigcaa.Q
open Go.RowKit Go.Proofs.YtnlbfomlfhigcaaW.PrintWords Go.Proofs.YtnlbfomlfhigcaaW.PrintLast Go.Proofs.YtnlbfomlfhigcaaW.PrintMore
attribute [local go_sem] max2_int min2_int max_two min_two max_three min_three max_four min_four
set_option linter.unusedVariables false
set_option linter.unusedSimpArgs false
end Go.Proofs.Ytnlbfomlfhigcaa.Q
namespace Go.Proofs.Ytnlbfomlfhigcaa.Q
open Go.RowKit Go.Proofs.YtnlbfomlfhigcaaW.PrintWords Go.Proofs.YtnlbfomlfhigcaaW.PrintLast Go.Proofs.YtnlbfomlfhigcaaW.PrintMore
attribute [local go_sem] max2_int min2_int max_two min_two max_three min_three max_four min_four
set_option linter.unusedVariables false
set_option linter.unusedSimpArgs false
end Go.Proofs.Ytnlbfomlfhigcaa.Q
namespace Go.Proofs.Ytnlbfomlfhigcaa.M
open Go.RowKit Go.Proofs.YtnlbfomlfhigcaaW.PrintWords Go.Proofs.YtnlbfomlfhigcaaW.PrintLast Go.Proofs.YtnlbfomlfhigcaaW.PrintMore Go.Proofs.Ytnlbfomlfhigcaa.Q
theorem of_real (k : Nat) (neg : Bool) {s : Int} {f : Nat} (h1 : 2 ^ 63 ≤ f) (h2 : f < 2 ^ 64) (h3 : -1073741824 ≤ s) (h4 : s ≤ 1073741824) : round_Of.f (k + 1) 1 neg s (f : Int) = some (1, neg, s, (f : Int), 0, false, none) := by
  unfold round_Of.f
  have h := sound_real (l := 0) k neg false (s := s) h1 h2 (by omega) (by omega)
  have h' : round_sound.f (k + 1) 1 neg s (f : Int) 0 false = some true := h
  rw [h']
  simp only [Option.bind_some, if_true]
  rw [if_neg (by omega), if_neg (by omega)]
theorem of_zero (k : Nat) : round_Of.f (k + 1) 0 false 0 0 = some (0, false, 0, 0, 0, false, none) := by
  unfold round_Of.f
  rw [sound_zero]
  rfl
theorem of_nar (k : Nat) : round_Of.f (k + 1) 2 false 0 0 = some (2, false, 0, 0, 0, false, none) := by
  unfold round_Of.f
  rw [sound_nar]
  rfl
theorem convert_yes {n m p : Nat} (hn : Wd n) (hm : Wd m) (hp : p < 2 ^ 64) : ∃ q : Nat, (∀ k, gen_Convert.f (k + 80) (n : Int) (m : Int) (p : Int) = some ((q : Int), none)) ∧
    ((p % 2 ^ n = 0 ∧ q = 0) ∨ (p % 2 ^ n = 2 ^ (n - 1) ∧ q = 2 ^ (m - 1)) ∨ (knd n (p % 2 ^ n) = 1 ∧ ∃ s f, Dec n (mag n (p % 2 ^ n)) s f ∧ q = sg m (sgn n (p % 2 ^ n)) (rpos m s (f * 2 ^ 64) false))) := by
  rcases knd_cases n (p % 2 ^ n) with ⟨h0, h1⟩ | h1 | ⟨h0, h1⟩
  · refine ⟨0, fun k => ?_, .inl ⟨h1, rfl⟩⟩
    unfold gen_Convert.f
    rw [of_yes hm, decode_zero hn hp h0]
    simp only [Option.bind_some, Option.isNone_none, if_true]
    rw [of_zero (k + 79)]
    simp only [Option.bind_some]
    rw [round_zero hm (k + 79)]
    rfl
  · obtain ⟨s, f, hd, hf⟩ := decode_real hn hp h1
    refine ⟨_, fun k => ?_, .inr (.inr ⟨h1, s, f, hd, rfl⟩)⟩
    have hb := hn.bd
    obtain ⟨g1, g2, g3, g4, _⟩ := hd
    unfold gen_Convert.f
    rw [of_yes hm, hf (k + 72)]
    simp only [Option.bind_some, Option.isNone_none, if_true]
    rw [of_real (k + 79) _ g1 g2 (by omega) (by omega)]
    simp only [Option.bind_some]
    have hr := round_real hm (sgn n (p % 2 ^ n)) false (s := s) (l := 0) g1 g2 (by decide) (by omega) (by omega) k
    rw [Nat.add_zero (f * 2 ^ 64)] at hr
    have hr' : round_Round.f (k + 80) (m : Int) 1 (sgn n (p % 2 ^ n)) s (f : Int) 0 false = _ := hr
    rw [hr', Option.bind_some]
  · refine ⟨_, fun k => ?_, .inr (.inl ⟨h1, rfl⟩)⟩
    unfold gen_Convert.f
    rw [of_yes hm, decode_nar hn hp h0]
    simp only [Option.bind_some, Option.isNone_none, if_true]
    rw [of_nar (k + 79)]
    simp only [Option.bind_some]
    rw [round_nar hm (k + 79)]
    rfl
theorem sg_lt {n : Nat} (hn : Wd n) (neg : Bool) {p : Nat} (h1 : 1 ≤ p) (h2 : p < 2 ^ (n - 1)) : sg n neg p < 2 ^ n := by
  have := two_half hn
  unfold sg
  split <;> omega
theorem sg_parts {n : Nat} (hn : Wd n) (neg : Bool) {p : Nat} (h1 : 1 ≤ p) (h2 : p < 2 ^ (n - 1)) : knd n (sg n neg p) = 1 ∧ sgn n (sg n neg p) = neg ∧ mag n (sg n neg p) = p := by
  have e := two_half hn
  unfold sg
  cases neg with
  | true =>
    rw [if_pos rfl]
    refine ⟨?_, ?_, ?_⟩
    · unfold knd; rw [if_neg (by omega), if_neg (by omega)]
    · unfold sgn; simp only [decide_eq_true_eq]; omega
    · unfold mag; rw [if_pos (by omega)]; omega
  | false =>
    rw [if_neg (by decide)]
    refine ⟨?_, ?_, ?_⟩
    · unfold knd; rw [if_neg (by omega), if_neg (by omega)]
    · unfold sgn; simp only [decide_eq_false_iff_not]; omega
    · unfold mag; rw [if_neg (by omega)]
theorem sg_mag {n y : Nat} (hy : y < 2 ^ n) : sg n (sgn n y) (mag n y) = y := by
  unfold sg sgn mag
  by_cases c : 2 ^ (n - 1) ≤ y
  · rw [if_pos c, decide_eq_true c, if_pos rfl]; omega
  · rw [if_neg c, decide_eq_false c, if_neg (by decide)]
theorem sg_mul {n j : Nat} (neg : Bool) {p : Nat} : sg n neg p * 2 ^ j = sg (n + j) neg (p * 2 ^ j) := by
  unfold sg
  split
  · rw [Nat.sub_mul, Nat.pow_add]
  · rfl
theorem convert_widen {n m p : Nat} (hn : Wd n) (hm : Wd m) (hnm : n ≤ m) (hp : p < 2 ^ 64) (k : Nat) :
    gen_Convert.f (k + 80) (n : Int) (m : Int) (p : Int) = some (((p % 2 ^ n * 2 ^ (m - n) : Nat) : Int), none) := by
  obtain ⟨q, hq, h⟩ := convert_yes hn hm hp
  rw [hq k]
  congr 3
  have hy : p % 2 ^ n < 2 ^ n := Nat.mod_lt _ (pow_pos _)
  rcases h with ⟨h1, h2⟩ | ⟨h1, h2⟩ | ⟨h1, s, f, hd, h2⟩
  · rw [h1, h2, Nat.zero_mul]
  · rw [h1, h2, ← Nat.pow_add]
    have := hn.bd
    exact congrArg (2 ^ ·) (by omega)
  · have hmb := mag_bd hn hy h1
    rw [h2, (hd.widen hn hm hnm hmb.2).1]
    have := sg_mul (n := n) (j := m - n) (sgn n (p % 2 ^ n)) (p := mag n (p % 2 ^ n))
    rw [sg_mag hy, show n + (m - n) = m by omega] at this
    exact this.symm
theorem convert_back {n m p : Nat} (hn : Wd n) (hm : Wd m) (hnm : n ≤ m) (k : Nat) :
    gen_Convert.f (k + 80) (m : Int) (n : Int) ((p % 2 ^ n * 2 ^ (m - n) : Nat) : Int) = some (((p % 2 ^ n : Nat) : Int), none) := by
  have hb := hn.bd
  have hb' := hm.bd
  have hy : p % 2 ^ n < 2 ^ n := Nat.mod_lt _ (pow_pos _)
  generalize p % 2 ^ n = y at *
  have hM : 2 ^ n * 2 ^ (m - n) = 2 ^ m := by rw [← Nat.pow_add]; exact congrArg (2 ^ ·) (by omega)
  have hq : y * 2 ^ (m - n) < 2 ^ m := by rw [← hM]; exact Nat.mul_lt_mul_of_pos_right hy (pow_pos _)
  have hq64 : y * 2 ^ (m - n) < 2 ^ 64 := Nat.lt_of_lt_of_le hq (pow_le hb'.2)
  have hqm : y * 2 ^ (m - n) % 2 ^ m = y * 2 ^ (m - n) := Nat.mod_eq_of_lt hq
  have hy64 : y < 2 ^ 64 := Nat.lt_of_lt_of_le hy (pow_le hb.2)
  have hym : y % 2 ^ n = y := Nat.mod_eq_of_lt hy
  obtain ⟨q, hc, h⟩ := convert_yes hm hn hq64
  rw [hc k]
  congr 3
  rw [hqm] at h
  have hp1 := pow_pos (m - n)
  have hhalf : 2 ^ (n - 1) * 2 ^ (m - n) = 2 ^ (m - 1) := by rw [← Nat.pow_add]; exact congrArg (2 ^ ·) (by omega)
  rcases h with ⟨h1, h2⟩ | ⟨h1, h2⟩ | ⟨h1, s, f, hd, h2⟩
  · rw [h2]
    rcases Nat.mul_eq_zero.mp h1 with h3 | h3 <;> omega
  · rw [h2]
    rw [← hhalf] at h1
    exact (Nat.eq_of_mul_eq_mul_right hp1 h1).symm
  · have hk : knd n y = 1 := by
      rcases knd_cases n y with ⟨_, h3⟩ | h3 | ⟨_, h3⟩
      · subst h3; rw [Nat.zero_mul] at h1; unfold knd at h1; simp at h1
      · exact h3
      · subst h3; rw [hhalf] at h1; unfold knd at h1; rw [if_neg (by have := pow_pos (m - 1); omega), if_pos rfl] at h1; omega
    have hmb := mag_bd hn hy hk
    obtain ⟨s', f', hd', _⟩ := decode_real hn hy64 (by rw [hym]; exact hk)
    rw [hym] at hd'
    have hw := hd'.widen hn hm hnm hmb.2
    have hyy := sg_mag hy
    have hmag : mag n y * 2 ^ (m - n) < 2 ^ (m - 1) := by rw [← hhalf]; exact Nat.mul_lt_mul_of_pos_right hmb.2 hp1
    have hmag1 : 1 ≤ mag n y * 2 ^ (m - n) := Nat.mul_pos hmb.1 hp1
    have hsp := sg_parts hm (sgn n y) hmag1 hmag
    have hsm := sg_mul (n := n) (j := m - n) (sgn n y) (p := mag n y)
    rw [hyy, show n + (m - n) = m by omega] at hsm
    rw [← hsm] at hsp
    rw [hsp.2.2] at hd
    rw [hsp.2.1] at h2
    obtain ⟨rfl, rfl⟩ := hd.uniq hm hw.2
    rw [h2, hd'.back hn hmb.2, hyy]
end Go.Proofs.Ytnlbfomlfhigcaa.M
namespace Go.Proofs.Ytnlbfomlfhigcaa.M
open Go.RowKit Go.Proofs.YtnlbfomlfhigcaaW.PrintWords Go.Proofs.YtnlbfomlfhigcaaW.PrintLast Go.Proofs.YtnlbfomlfhigcaaW.PrintMore Go.Proofs.Ytnlbfomlfhigcaa.Q
inductive Mn where
  | zero
  | nar
  | real (n : Bool) (s : Int) (f : Nat)
def Mn.k : Mn → Int
  | .zero => 0
  | .nar => 2
  | .real _ _ _ => 1
def Mn.n : Mn → Bool
  | .real n _ _ => n
  | _ => false
def Mn.s : Mn → Int
  | .real _ s _ => s
  | _ => 0
def Mn.f : Mn → Nat
  | .real _ _ f => f
  | _ => 0
def Means (n y : Nat) : Mn → Prop
  | .zero => y = 0
  | .nar => y = 2 ^ (n - 1)
  | .real g s f => knd n y = 1 ∧ g = sgn n y ∧ Dec n (mag n y) s f
theorem Means.bd {n y : Nat} {g : Bool} {s : Int} {f : Nat} (h : Means n y (.real g s f)) : 2 ^ 63 ≤ f ∧ f < 2 ^ 64 ∧ 8 - 4 * (n : Int) ≤ s ∧ s ≤ 4 * (n : Int) - 8 := by
  obtain ⟨_, _, h1, h2, h3, h4, _⟩ := h
  exact ⟨h1, h2, h3, h4⟩
theorem decodes {n p : Nat} (hn : Wd n) (hp : p < 2 ^ 64) : ∃ m, Means n (p % 2 ^ n) m ∧ ∀ k, codec_Decode.f (k + 8) (n : Int) (p : Int) = some (m.k, m.n, m.s, (m.f : Int), none) := by
  rcases knd_cases n (p % 2 ^ n) with ⟨h0, h1⟩ | h1 | ⟨h0, h1⟩
  · exact ⟨.zero, h1, fun k => decode_zero hn hp h0 _⟩
  · obtain ⟨s, f, hd, hf⟩ := decode_real hn hp h1
    exact ⟨.real (sgn n (p % 2 ^ n)) s f, ⟨h1, rfl, hd⟩, hf⟩
  · exact ⟨.nar, h1, fun k => decode_nar hn hp h0 _⟩
theorem sout_self {h l : Nat} {s u : Int} {n : Bool} (h1 : 2 ^ 63 ≤ h) (h2 : h < 2 ^ 64) (h3 : l < 2 ^ 64) (b1 : -1099511627776 ≤ s) (b2 : s ≤ 1099511627776) (hu : u ≤ s - 127) :
    Sout u (vl u n s (h * 2 ^ 64 + l)) (some (1, n, s, (h : Int), (l : Int), false)) := by
  have hF : 2 ^ 127 ≤ h * 2 ^ 64 + l ∧ h * 2 ^ 64 + l < 2 ^ 128 := by omega
  have hH : Hi 127 (h * 2 ^ 64 + l) := hF
  have hF0 : h * 2 ^ 64 + l ≠ 0 := by omega
  have t1 : tF 127 (h * 2 ^ 64 + l) = h * 2 ^ 64 + l := Nat.mul_div_cancel _ (pow_pos 127)
  have t2 : tB 127 (h * 2 ^ 64 + l) = false := decide_eq_false (by rw [Nat.mul_mod_left]; simp)
  have e0 : (h * 2 ^ 64 + l) / 2 ^ 64 = h := by omega
  have e1 : (h * 2 ^ 64 + l) % 2 ^ 64 = l := by omega
  have hs : hld s = s := by unfold hld mx mn; omega
  generalize hc : (s - 127 - u).toNat = c
  have hZ : (vl u n s (h * 2 ^ 64 + l)).natAbs = (h * 2 ^ 64 + l) * 2 ^ c := by
    unfold vl
    rw [sv_abs, hc]
  have hp := pow_pos c
  have hne : (h * 2 ^ 64 + l) * 2 ^ c ≠ 0 := Nat.mul_ne_zero hF0 (by omega)
  refine .inr ⟨127 + c, by rw [hZ]; exact hH.mul c, ?_⟩
  rw [hZ, tF_mul, tB_mul, t1, t2, e0, e1]
  have e2 : decide (vl u n s (h * 2 ^ 64 + l) < 0) = n := by
    unfold vl
    rw [hc]
    exact sv_neg hne
  have e3 : u + ((127 + c : Nat) : Int) = s := by omega
  rw [e2, e3, hs]
def Xout (u : Int) : Option Int → Option (Int × Bool × Int × Int × Int × Bool) → Prop
  | none, r => r = some (2, false, 0, 0, 0, false)
  | some Z, r => Sout u Z r
def Mn.v (u : Int) : Mn → Option Int
  | .zero => some 0
  | .nar => none
  | .real n s f => some (vl u n s (f * 2 ^ 64))
def oadd : Option Int → Option Int → Option Int
  | some a, some b => some (a + b)
  | _, _ => none
theorem mn_of {w y : Nat} (hw : Wd w) {m : Mn} (h : Means w y m) (k : Nat) : round_Of.f (k + 1) m.k m.n m.s (m.f : Int) = some (m.k, m.n, m.s, (m.f : Int), 0, false, none) := by
  have hb := hw.bd
  cases m with
  | zero => exact of_zero k
  | nar => exact of_nar k
  | real n s f =>
    obtain ⟨h1, h2, h3, h4⟩ := h.bd
    have e := of_real k n (s := s) h1 h2 (by omega) (by omega)
    exact e
theorem sum_mn {w y w' y' : Nat} (hw : Wd w) (hw' : Wd w') {m m' : Mn} (h : Means w y m) (h' : Means w' y' m') {u : Int} (hu : u ≤ -400) (k : Nat) :
    Xout u (oadd (m.v u) (m'.v u)) (broad_Sum.f (k + 6) m.k m.n m.s (m.f : Int) 0 false m'.k m'.n m'.s (m'.f : Int) 0 false) := by
  have hb := hw.bd
  have hb' := hw'.bd
  cases m with
  | nar => cases m' <;> exact sum_nar_l (k + 5) _ _ _ _ _ _ _ _ _ _ _
  | zero =>
    cases m' with
    | nar => exact sum_nar_r (k + 5) _ _ _ _ _ _ _ _ _ _ _ (by decide)
    | zero => exact .inl ⟨rfl, sum_zero_l (k + 5) _ _ _ _ _ 0 (.inl rfl)⟩
    | real n s f =>
      obtain ⟨h1, h2, h3, h4⟩ := h'.bd
      have e := sum_zero_l (k + 5) n s (f : Int) 0 false 1 (.inr rfl)
      have hs := sout_self (l := 0) (n := n) (u := u) h1 h2 (by decide) (show -1099511627776 ≤ s by omega) (by omega) (by omega)
      rw [Nat.add_zero] at hs
      show Sout u (0 + vl u n s (f * 2 ^ 64)) (broad_Sum.f (k + 6) 0 false 0 0 0 false 1 n s (f : Int) 0 false)
      rw [show k + 6 = (k + 5) + 1 from rfl, e, Int.zero_add]
      exact hs
  | real n s f =>
    obtain ⟨h1, h2, h3, h4⟩ := h.bd
    cases m' with
    | nar => exact sum_nar_r (k + 5) _ _ _ _ _ _ _ _ _ _ _ (by show (1 : Int) ≠ 2; decide)
    | zero =>
      have e := sum_zero_r (k + 5) n s (f : Int) 0 false
      have hs := sout_self (l := 0) (n := n) (u := u) h1 h2 (by decide) (show -1099511627776 ≤ s by omega) (by omega) (by omega)
      rw [Nat.add_zero] at hs
      show Sout u (vl u n s (f * 2 ^ 64) + 0) (broad_Sum.f (k + 6) 1 n s (f : Int) 0 false 0 false 0 0 0 false)
      rw [show k + 6 = (k + 5) + 1 from rfl, e, Int.add_zero]
      exact hs
    | real n' s' f' =>
      obtain ⟨h1', h2', h3', h4'⟩ := h'.bd
      have hs := sum_spec (lx := 0) (ly := 0) (n := n) (m := n') (sx := s) (sy := s') (u := u) h1 h2 (by decide) h1' h2' (by decide) (by omega) (by omega) (by omega) (by omega) (by omega) (by omega) k
      rw [Nat.add_zero, Nat.add_zero] at hs
      exact hs
noncomputable def RZ (n : Nat) (u : Int) : Option Int → Nat
  | none => 2 ^ (n - 1)
  | some Z => if Z = 0 then 0 else sg n (decide (Z < 0)) (rpos n (u + (Nat.log2 Z.natAbs : Int)) (tF (Nat.log2 Z.natAbs) Z.natAbs) (tB (Nat.log2 Z.natAbs) Z.natAbs))
theorem RZ_zero (n : Nat) (u : Int) : RZ n u (some 0) = 0 := by
  unfold RZ
  exact if_pos rfl
theorem RZ_some {n : Nat} {u Z : Int} (h : Z ≠ 0) : RZ n u (some Z) = sg n (decide (Z < 0)) (rpos n (u + (Nat.log2 Z.natAbs : Int)) (tF (Nat.log2 Z.natAbs) Z.natAbs) (tB (Nat.log2 Z.natAbs) Z.natAbs)) := by
  unfold RZ
  exact if_neg h
theorem Hi.log {j N : Nat} (h : Hi j N) : Nat.log2 N = j := by
  have hN : N ≠ 0 := by
    have := h.1
    have := pow_pos j
    omega
  exact Hi.uniq ⟨Nat.log2_self_le hN, Nat.lt_log2_self⟩ h
theorem Hi.ne {j N : Nat} (h : Hi j N) : N ≠ 0 := by
  have := h.1
  have := pow_pos j
  omega
theorem round_xout {n : Nat} (hn : Wd n) {u : Int} {κ : Option Int} {r : Option (Int × Bool × Int × Int × Int × Bool)} (h : Xout u κ r) (hu : ∀ Z j, κ = some Z → Hi j Z.natAbs → -1099511627776 ≤ u + (j : Int) ∧ u + (j : Int) ≤ 1099511627776) (k : Nat) :
    ∃ t, r = some t ∧ round_Round.f (k + 80) (n : Int) t.1 t.2.1 t.2.2.1 t.2.2.2.1 t.2.2.2.2.1 t.2.2.2.2.2 = some ((RZ n u κ : Int), none) := by
  cases κ with
  | none => exact ⟨_, h, round_nar hn (k + 79)⟩
  | some Z =>
    rcases h with ⟨h1, h2⟩ | ⟨j, h1, h2⟩
    · refine ⟨_, h2, ?_⟩
      rw [h1, RZ_zero]
      exact round_zero hn (k + 79)
    · have hZ0 : Z ≠ 0 := by
        intro hz
        rw [hz] at h1
        exact h1.ne rfl
      have hb := tF_bd h1
      obtain ⟨u1, u2⟩ := hu Z j rfl h1
      have hs : hld (u + (j : Int)) = u + (j : Int) := by unfold hld mx mn; omega
      refine ⟨_, h2, ?_⟩
      rw [RZ_some hZ0, h1.log]
      simp only
      rw [hs]
      generalize tF j Z.natAbs = F at *
      have e : F / 2 ^ 64 * 2 ^ 64 + F % 2 ^ 64 = F := by omega
      have hr := round_real hn (decide (Z < 0)) (tB j Z.natAbs) (s := u + (j : Int)) (h := F / 2 ^ 64) (l := F % 2 ^ 64) (by omega) (by omega) (by omega) u1 u2 k
      rw [e] at hr
      exact hr
end Go.Proofs.Ytnlbfomlfhigcaa.M
namespace Go.Proofs.Ytnlbfomlfhigcaa.M
open Go.RowKit Go.Proofs.YtnlbfomlfhigcaaW.PrintWords Go.Proofs.YtnlbfomlfhigcaaW.PrintLast Go.Proofs.YtnlbfomlfhigcaaW.PrintMore Go.Proofs.Ytnlbfomlfhigcaa.Q
theorem mul_words {a b : Nat} (ha : a < 2 ^ 64) (hb : b < 2 ^ 64) : twin_Mul.f (a : Int) (b : Int) = some (((a * b / 2 ^ 64 : Nat) : Int), ((a * b % 2 ^ 64 : Nat) : Int)) := by
  unfold twin_Mul.f bits_Mul64.f
  rw [if_pos ⟨by omega, by omega, by omega, by omega⟩, Option.bind_some, ← Int.natCast_mul]
  rfl
theorem norm_words {P : Nat} (h1 : 2 ^ 126 ≤ P) (h2 : P < 2 ^ 128) : ∃ t, t ≤ 1 ∧ Hi (127 - t) P ∧ twin_Norm.f ((P / 2 ^ 64 : Nat) : Int) ((P % 2 ^ 64 : Nat) : Int) = some (((P * 2 ^ t / 2 ^ 64 : Nat) : Int), ((P * 2 ^ t % 2 ^ 64 : Nat) : Int), (t : Int)) := by
  have hh : P / 2 ^ 64 < 2 ^ 64 := by omega
  have hl : P % 2 ^ 64 < 2 ^ 64 := Nat.mod_lt _ (by decide)
  have eP : P / 2 ^ 64 * 2 ^ 64 + P % 2 ^ 64 = P := by omega
  obtain ⟨b, hb, hf, hc⟩ := len_tw hh hl
  rw [eP] at hc
  have hb2 : b = 127 ∨ b = 128 := by
    rcases hc with ⟨h0, _⟩ | ⟨g1, g2, g3⟩
    · omega
    · have k1 : 126 < b := (Nat.pow_lt_pow_iff_right (show 1 < 2 by decide)).1 (Nat.lt_of_le_of_lt h1 g3)
      omega
  have g : 2 ^ (b - 1) ≤ P ∧ P < 2 ^ b := by
    rcases hc with ⟨h0, _⟩ | ⟨g1, g2, g3⟩
    · omega
    · exact ⟨g2, g3⟩
  refine ⟨128 - b, by omega, ?_, ?_⟩
  · rcases hb2 with rfl | rfl <;> exact g
  · have hz : ¬ (((P / 2 ^ 64 : Nat) : Int) == 0 && (((P % 2 ^ 64 : Nat) : Int) == 0)) = true := by
      simp only [Bool.and_eq_true, beq_iff_eq]
      omega
    have hw : wrap64 (128 - (b : Int)) = ((128 - b : Nat) : Int) := by unfold wrap64; omega
    have hs := shl_tw (h := P / 2 ^ 64) (j := 128 - b) hh hl (by omega)
    rw [eP] at hs
    have hlt : P * 2 ^ (128 - b) < 2 ^ 128 := by
      rcases hb2 with rfl | rfl
      · have := g.2
        omega
      · have := g.2
        omega
    rw [Nat.mod_eq_of_lt hlt] at hs
    unfold twin_Norm.f
    rw [if_neg hz, hf, Option.bind_some, hw, hs]
    rfl
theorem make_val {P : Nat} (h1 : 2 ^ 126 ≤ P) (h2 : P < 2 ^ 128) (neg : Bool) {e u : Int} (e1 : -1000000 ≤ e) (e2 : e ≤ 1000000) (hu : u ≤ e) (k : Nat) :
    ∃ t, round_Make.f (k + 1) neg ((P / 2 ^ 64 : Nat) : Int) ((P % 2 ^ 64 : Nat) : Int) e false = some (t.1, t.2.1, t.2.2.1, t.2.2.2.1, t.2.2.2.2.1, t.2.2.2.2.2, none) ∧ Sout u (sv neg (P * 2 ^ (e - u).toNat)) (some t) := by
  obtain ⟨t, ht, hH, hN⟩ := norm_words h1 h2
  have hP0 := hH.ne
  have hlt : P * 2 ^ t < 2 ^ 128 := by
    have := Nat.mul_lt_mul_of_pos_right hH.2 (pow_pos t)
    rw [← Nat.pow_add, show 127 - t + 1 + t = 128 by omega] at this
    exact this
  have hge : 2 ^ 127 ≤ P * 2 ^ t := by
    have := Nat.mul_le_mul_right (2 ^ t) hH.1
    rw [← Nat.pow_add, show 127 - t + t = 127 by omega] at this
    exact this
  have hpt : (2 : Nat) ^ 127 = 2 ^ t * 2 ^ (127 - t) := pow_split (by omega)
  have tf : tF (127 - t) P = P * 2 ^ t := by
    unfold tF
    rw [hpt, ← Nat.mul_assoc, Nat.mul_div_cancel _ (pow_pos _)]
  have tb : tB (127 - t) P = false := by
    unfold tB
    refine decide_eq_false ?_
    rw [hpt, ← Nat.mul_assoc, Nat.mul_mod_left]
    simp
  have hexp : mx (-4398046511104) (mn e 4398046511104) = e := by unfold mx mn; omega
  have hw1 : wrap64 (e + 127) = e + 127 := by unfold wrap64; omega
  have hw2 : wrap64 (e + 127 - (t : Int)) = e + 127 - (t : Int) := by unfold wrap64; omega
  have hheld : round_held.f (e + 127 - (t : Int)) = some (hld (e + ((127 - t : Nat) : Int))) := by
    rw [held_val]
    have : e + 127 - (t : Int) = e + ((127 - t : Nat) : Int) := by omega
    rw [this]
    refine congrArg some ?_
    unfold hld mx mn
    split <;> split <;> omega
  refine ⟨(1, neg, hld (e + ((127 - t : Nat) : Int)), ((P * 2 ^ t / 2 ^ 64 : Nat) : Int), ((P * 2 ^ t % 2 ^ 64 : Nat) : Int), false), ?_, ?_⟩
  · have hz : ¬ (((P * 2 ^ t / 2 ^ 64 : Nat) : Int) == 0 && (((P * 2 ^ t % 2 ^ 64 : Nat) : Int) == 0)) = true := by
      simp only [Bool.and_eq_true, beq_iff_eq]
      generalize P * 2 ^ t = F at *
      omega
    unfold round_Make.f
    rw [if_neg (by decide), round_Make.j0, if_neg (by decide), hN, Option.bind_some, if_neg hz, hexp, hw1, hw2, hheld, Option.bind_some]
  · have hS : Sout e (sv neg P) (some (1, neg, hld (e + ((127 - t : Nat) : Int)), ((P * 2 ^ t / 2 ^ 64 : Nat) : Int), ((P * 2 ^ t % 2 ^ 64 : Nat) : Int), false)) := by
      refine .inr ⟨127 - t, by rw [sv_abs]; exact hH, ?_⟩
      rw [sv_abs, tf, tb, sv_neg hP0]
    have := hS.shift (e - u).toNat
    rw [← sv_mul, show e - ((e - u).toNat : Int) = u by omega] at this
    exact this
def omul (u : Int) : Mn → Mn → Option Int
  | .nar, _ => none
  | _, .nar => none
  | .zero, _ => some 0
  | _, .zero => some 0
  | .real n s f, .real n' s' f' => some (sv (n != n') (f * f' * 2 ^ (s + s' - 126 - u).toNat))
theorem prod_mn {w y w' y' : Nat} (hw : Wd w) (hw' : Wd w') {m m' : Mn} (h : Means w y m) (h' : Means w' y' m') {u : Int} (hu : u ≤ -1000) (k : Nat) :
    ∃ t, prod_Exact.f (k + 6) m.k m.n m.s (m.f : Int) m'.k m'.n m'.s (m'.f : Int) = some (t.1, t.2.1, t.2.2.1, t.2.2.2.1, t.2.2.2.2.1, t.2.2.2.2.2, none) ∧ Xout u (omul u m m') (some t) := by
  have hb := hw.bd
  have hb' := hw'.bd
  have hloop : prod_Exact.f (k + 6) m.k m.n m.s (m.f : Int) m'.k m'.n m'.s (m'.f : Int) =
      (if m.k = 2 then prod_Exact.j1 (k + 3) (m.k == 2) m.k m.n m.s (m.f : Int) m'.k m'.n m'.s (m'.f : Int) else prod_Exact.j1 (k + 3) (m'.k == 2) m.k m.n m.s (m.f : Int) m'.k m'.n m'.s (m'.f : Int)) := by
    have q0 : rd_T103 [⟨m.k, m.n, m.s, (m.f : Int)⟩, ⟨m'.k, m'.n, m'.s, (m'.f : Int)⟩] 0 = ⟨m.k, m.n, m.s, (m.f : Int)⟩ := rfl
    have q1 : rd_T103 [⟨m.k, m.n, m.s, (m.f : Int)⟩, ⟨m'.k, m'.n, m'.s, (m'.f : Int)⟩] 1 = ⟨m'.k, m'.n, m'.s, (m'.f : Int)⟩ := rfl
    have w1 : wrap64 (0 + 1) = 1 := by unfold wrap64; omega
    have w2 : wrap64 (1 + 1) = 2 := by unfold wrap64; omega
    have len : (([⟨m.k, m.n, m.s, (m.f : Int)⟩, ⟨m'.k, m'.n, m'.s, (m'.f : Int)⟩] : List S103).length : Int) = 2 := rfl
    unfold prod_Exact.f
    rw [Option.bind_some, len, show k + 6 = (k + 5) + 1 from rfl, prod_Exact.l0, if_pos (by decide), if_pos (by decide), if_pos (by rw [len]; decide), q0]
    simp only
    rw [show k + 5 = (k + 4) + 1 from rfl, mn_of hw h (k + 4), Option.bind_some]
    simp only [Option.isNone_none, if_true]
    rw [w1, prod_Exact.l0, if_pos (by decide), if_pos (by decide), if_pos (by rw [len]; decide), q1]
    simp only
    rw [show k + 4 = (k + 3) + 1 from rfl, mn_of hw' h' (k + 3), Option.bind_some]
    simp only [Option.isNone_none, if_true]
    rw [w2, prod_Exact.l0, if_neg (by decide)]
  rw [hloop]
  cases m with
  | nar =>
    refine ⟨(2, false, 0, 0, 0, false), ?_, ?_⟩
    · show (if (2 : Int) = 2 then prod_Exact.j1 (k + 3) true _ _ _ _ _ _ _ _ else _) = _
      rw [if_pos rfl, show k + 3 = (k + 2) + 1 from rfl, prod_Exact.j1, if_pos rfl]
    · cases m' <;> rfl
  | zero =>
    cases m' with
    | nar =>
      refine ⟨(2, false, 0, 0, 0, false), ?_, rfl⟩
      show (if (0 : Int) = 2 then _ else prod_Exact.j1 (k + 3) true _ _ _ _ _ _ _ _) = _
      rw [if_neg (by decide), show k + 3 = (k + 2) + 1 from rfl, prod_Exact.j1, if_pos rfl]
    | zero =>
      refine ⟨(0, false, 0, 0, 0, false), ?_, .inl ⟨rfl, rfl⟩⟩
      show (if (0 : Int) = 2 then _ else prod_Exact.j1 (k + 3) false 0 _ _ _ 0 _ _ _) = _
      rw [if_neg (by decide), show k + 3 = (k + 2) + 1 from rfl, prod_Exact.j1, if_neg (by decide), if_pos rfl, show ((0 : Int) == 0) = true from rfl, show k + 2 = (k + 1) + 1 from rfl, prod_Exact.j2, if_pos rfl]
    | real n' s' f' =>
      refine ⟨(0, false, 0, 0, 0, false), ?_, .inl ⟨rfl, rfl⟩⟩
      show (if (0 : Int) = 2 then _ else prod_Exact.j1 (k + 3) false 0 _ _ _ 1 _ _ _) = _
      rw [if_neg (by decide), show k + 3 = (k + 2) + 1 from rfl, prod_Exact.j1, if_neg (by decide), if_pos rfl, show ((0 : Int) == 0) = true from rfl, show k + 2 = (k + 1) + 1 from rfl, prod_Exact.j2, if_pos rfl]
  | real n s f =>
    cases m' with
    | nar =>
      refine ⟨(2, false, 0, 0, 0, false), ?_, rfl⟩
      show (if (1 : Int) = 2 then _ else prod_Exact.j1 (k + 3) true _ _ _ _ _ _ _ _) = _
      rw [if_neg (by decide), show k + 3 = (k + 2) + 1 from rfl, prod_Exact.j1, if_pos rfl]
    | zero =>
      refine ⟨(0, false, 0, 0, 0, false), ?_, .inl ⟨rfl, rfl⟩⟩
      show (if (1 : Int) = 2 then _ else prod_Exact.j1 (k + 3) false 1 _ _ _ 0 _ _ _) = _
      rw [if_neg (by decide), show k + 3 = (k + 2) + 1 from rfl, prod_Exact.j1, if_neg (by decide), if_neg (by decide), show ((0 : Int) == 0) = true from rfl, show k + 2 = (k + 1) + 1 from rfl, prod_Exact.j2, if_pos rfl]
    | real n' s' f' =>
      obtain ⟨h1, h2, h3, h4⟩ := h.bd
      obtain ⟨h1', h2', h3', h4'⟩ := h'.bd
      have hlo : 2 ^ 126 ≤ f * f' := by
        have := Nat.mul_le_mul h1 h1'
        rw [← Nat.pow_add] at this
        exact this
      have hhi : f * f' < 2 ^ 128 := by
        have h5 := Nat.mul_lt_mul_of_lt_of_le h2 (Nat.le_of_lt h2') (by decide)
        rw [← Nat.pow_add] at h5
        exact h5
      have hw1 : wrap64 (s + s') = s + s' := by unfold wrap64; omega
      have hw2 : wrap64 (s + s' - 126) = s + s' - 126 := by unfold wrap64; omega
      obtain ⟨t, ht, hS⟩ := make_val hlo hhi (n != n') (e := s + s' - 126) (u := u) (by omega) (by omega) (by omega) k
      refine ⟨t, ?_, hS⟩
      show (if (1 : Int) = 2 then _ else prod_Exact.j1 (k + 3) false 1 n s (f : Int) 1 n' s' (f' : Int)) = _
      rw [if_neg (by decide), show k + 3 = (k + 2) + 1 from rfl, prod_Exact.j1, if_neg (by decide), if_neg (by decide), show ((1 : Int) == 0) = false from rfl, show k + 2 = (k + 1) + 1 from rfl, prod_Exact.j2, if_neg (by decide),
        mul_words h2 h2', Option.bind_some]
      simp only
      rw [hw1, hw2, ht, Option.bind_some]
end Go.Proofs.Ytnlbfomlfhigcaa.M
namespace Go.Proofs.Ytnlbfomlfhigcaa.M
open Go.RowKit Go.Proofs.YtnlbfomlfhigcaaW.PrintWords Go.Proofs.YtnlbfomlfhigcaaW.PrintLast Go.Proofs.YtnlbfomlfhigcaaW.PrintMore Go.Proofs.Ytnlbfomlfhigcaa.Q
theorem dvd_pow {a b : Nat} (h : a ≤ b) : 2 ^ a ∣ 2 ^ b := Nat.pow_dvd_pow 2 h
theorem pow_mul {a b c : Nat} (h : a + b = c) : 2 ^ a * 2 ^ b = 2 ^ c := by rw [← Nat.pow_add, h]
theorem tl_dvd {s : Int} {F e : Nat} (hF : 2 ^ 127 ≤ F) (he : e ≤ 127) : 2 ^ e ∣ tl s F ↔ 2 ^ e ∣ F := by
  have h1 : 2 ^ e ∣ (s % 4).toNat * 2 ^ 127 := Nat.dvd_trans (dvd_pow he) (Nat.dvd_mul_left _ _)
  have h2 : F = (F - 2 ^ 127) + 2 ^ 127 := by omega
  unfold tl
  rw [Nat.dvd_add_right h1]
  constructor
  · intro h
    rw [h2]
    exact Nat.dvd_add h (dvd_pow he)
  · intro h
    exact Nat.dvd_sub h (dvd_pow he)
theorem Dec.noughts {n p : Nat} (hn : Wd n) {s : Int} {f : Nat} (h : Dec n p s f) : 2 ^ (132 - n) ∣ f * 2 ^ 64 := by
  have hb := hn.bd
  have hF := h.F
  obtain ⟨h1, h2, h3, h4, h5⟩ := h
  refine (tl_dvd (s := s) hF.1 (by omega)).1 ?_
  have hd : 2 ^ (201 - n) ∣ str s (f * 2 ^ 64) := ⟨p, by rw [h5, Nat.mul_comm]⟩
  by_cases c : 0 ≤ s / 4
  · obtain ⟨k, hk⟩ := Int.eq_ofNat_of_zero_le c
    rw [str_pos hk] at hd
    have e1 : 2 ^ 130 * 2 ^ (69 - k) = 2 ^ (199 - k) := pow_mul (by omega)
    have e2 : 2 ^ (201 - n) ∣ 2 ^ 200 - 2 ^ 130 * 2 ^ (69 - k) := by
      rw [e1]
      exact Nat.dvd_sub (dvd_pow (by omega)) (dvd_pow (by omega))
    have e3 := (Nat.dvd_add_right e2).1 hd
    have e4 : 2 ^ (201 - n) = 2 ^ (132 - n + k) * 2 ^ (69 - k) := (pow_mul (by omega)).symm
    rw [e4] at e3
    exact Nat.dvd_trans (dvd_pow (by omega)) (Nat.dvd_of_mul_dvd_mul_right (pow_pos _) e3)
  · obtain ⟨r, hr⟩ : ∃ r : Nat, s / 4 = -(r : Int) := ⟨(-(s / 4)).toNat, by omega⟩
    rw [str_neg hr (by omega)] at hd
    have e1 : 2 ^ 129 * 2 ^ (70 - r) = 2 ^ (199 - r) := pow_mul (by omega)
    have e2 : 2 ^ (201 - n) ∣ 2 ^ 129 * 2 ^ (70 - r) := by
      rw [e1]
      exact dvd_pow (by omega)
    have e3 := (Nat.dvd_add_right e2).1 hd
    have e4 : 2 ^ (201 - n) = 2 ^ (131 - n + r) * 2 ^ (70 - r) := (pow_mul (by omega)).symm
    rw [e4] at e3
    exact Nat.dvd_trans (dvd_pow (by omega)) (Nat.dvd_of_mul_dvd_mul_right (pow_pos _) e3)
theorem wd64 : Wd 64 := by unfold Wd; omega
theorem exact64 {s : Int} {F e : Nat} (hF : 2 ^ 127 ≤ F) (hF2 : F < 2 ^ 128) (he : 2 ^ e ∣ F) (he1 : 68 ≤ e) (he2 : e ≤ 127) (h1 : -(4 * ((e : Int) - 67)) ≤ s) (h2 : s ≤ 4 * ((e : Int) - 68) + 3) :
    1 ≤ rpos 64 s F false ∧ rpos 64 s F false < 2 ^ 63 ∧ Dec 64 (rpos 64 s F false) s (F / 2 ^ 64) ∧ F / 2 ^ 64 * 2 ^ 64 = F := by
  have hbd := rpos_bd wd64 s false hF2
  have h64 : F / 2 ^ 64 * 2 ^ 64 = F := Nat.div_mul_cancel (Nat.dvd_trans (dvd_pow (by omega)) he)
  have ht := (tl_dvd (s := s) hF he2).2 he
  have hd : 2 ^ 137 ∣ str s F := by
    by_cases c : 0 ≤ s / 4
    · obtain ⟨k, hk⟩ := Int.eq_ofNat_of_zero_le c
      have e1 : 2 ^ 130 * 2 ^ (69 - k) = 2 ^ (199 - k) := pow_mul (by omega)
      rw [str_pos hk, e1]
      refine Nat.dvd_add (Nat.dvd_sub (dvd_pow (by omega)) (dvd_pow (by omega))) ?_
      exact Nat.dvd_trans (dvd_pow (show 137 ≤ e + (69 - k) by omega)) (by rw [Nat.pow_add]; exact Nat.mul_dvd_mul_right ht _)
    · obtain ⟨r, hr⟩ : ∃ r : Nat, s / 4 = -(r : Int) := ⟨(-(s / 4)).toNat, by omega⟩
      have e1 : 2 ^ 129 * 2 ^ (70 - r) = 2 ^ (199 - r) := pow_mul (by omega)
      rw [str_neg hr (by omega), e1]
      refine Nat.dvd_add (dvd_pow (by omega)) ?_
      exact Nat.dvd_trans (dvd_pow (show 137 ≤ e + (70 - r) by omega)) (by rw [Nat.pow_add]; exact Nat.mul_dvd_mul_right ht _)
  have hr : rpos 64 s F false = str s F / 2 ^ 137 := by
    unfold rpos
    rw [if_neg (by omega), if_neg (by omega)]
    obtain ⟨q, hq⟩ := hd
    have e : 2 * str s F + false.toNat = q * 2 ^ (202 - 64) := by
      rw [hq]
      show 2 * (2 ^ 137 * q) + 0 = q * 2 ^ 138
      omega
    rw [e, rnd_mul (pow_pos _), hq, Nat.mul_div_cancel_left _ (pow_pos 137)]
  refine ⟨hbd.1, by have := hbd.2; omega, ⟨?_, ?_, by omega, by omega, ?_⟩, h64⟩
  · omega
  · omega
  · rw [h64, hr]
    exact (Nat.div_mul_cancel hd).symm
theorem few {a b h j : Nat} (hb : b ≤ 128) (hh : h < 2 ^ b) (hj : Hi j (h * 2 ^ a)) : 2 ^ (128 - b) ∣ tF j (h * 2 ^ a) ∧ tB j (h * 2 ^ a) = false ∧ a ≤ j ∧ j < a + b := by
  have h0 : h ≠ 0 := by
    intro hz
    rw [hz, Nat.zero_mul] at hj
    exact hj.ne rfl
  obtain ⟨i, hi⟩ := Hi.ex h0
  have e := hj.uniq (hi.mul a)
  subst e
  have hib : i < b := (Nat.pow_lt_pow_iff_right (show 1 < 2 by decide)).1 (Nat.lt_of_le_of_lt hi.1 hh)
  rw [tF_mul, tB_mul]
  have hp : (2 : Nat) ^ 127 = 2 ^ (127 - i) * 2 ^ i := (pow_mul (by omega)).symm
  refine ⟨?_, ?_, by omega, by omega⟩
  · unfold tF
    rw [hp, ← Nat.mul_assoc, Nat.mul_div_cancel _ (pow_pos _)]
    exact Nat.dvd_trans (dvd_pow (by omega)) (Nat.dvd_mul_left _ _)
  · unfold tB
    refine decide_eq_false ?_
    rw [hp, ← Nat.mul_assoc, Nat.mul_mod_left]
    simp
theorem conv_exact {n : Nat} (hn : Wd n) {u Z : Int} {a b h : Nat} (hZ : Z.natAbs = h * 2 ^ a) (hb : b ≤ 60) (hh : h < 2 ^ b) (h1 : -(4 * (61 - (b : Int))) ≤ u + a) (h2 : u + a + b - 1 ≤ 4 * (60 - (b : Int)) + 3) (k : Nat) :
    gen_Convert.f (k + 80) 64 (n : Int) ((RZ 64 u (some Z) : Nat) : Int) = some (((RZ n u (some Z) : Nat) : Int), none) := by
  by_cases hz : Z = 0
  · subst hz
    rw [RZ_zero, RZ_zero]
    obtain ⟨q, hq, hc⟩ := convert_yes wd64 hn (p := 0) (by decide)
    have e := hq k
    have hq0 : q = 0 := by
      rcases hc with ⟨_, h⟩ | ⟨h, _⟩ | ⟨h, _⟩
      · exact h
      · exact absurd h (by decide)
      · exact absurd h (by decide)
    rw [hq0] at e
    exact e
  · have hN : Z.natAbs ≠ 0 := by omega
    obtain ⟨j, hj⟩ := Hi.ex hN
    have hbF := tF_bd hj
    rw [RZ_some hz, RZ_some hz, hj.log]
    rw [hZ] at hj hbF ⊢
    obtain ⟨f1, f2, f3, f4⟩ := few (by omega) hh hj
    rw [f2]
    generalize tF j (h * 2 ^ a) = F at *
    generalize decide (Z < 0) = neg at *
    obtain ⟨g1, g2, g3, g4⟩ := exact64 (s := u + (j : Int)) hbF.1 hbF.2 f1 (by omega) (by omega) (by omega) (by omega)
    generalize rpos 64 (u + (j : Int)) F false = p at *
    have hsl := sg_lt wd64 neg g1 g2
    have hsp := sg_parts wd64 neg g1 g2
    have hmod : sg 64 neg p % 2 ^ 64 = sg 64 neg p := Nat.mod_eq_of_lt hsl
    obtain ⟨q, hq, hc⟩ := convert_yes wd64 hn hsl
    have e := hq k
    rw [hmod] at hc
    have hqq : q = sg n neg (rpos n (u + (j : Int)) F false) := by
      rcases hc with ⟨h0, _⟩ | ⟨h0, _⟩ | ⟨_, s', f', hD, hq'⟩
      · have := hsp.1
        rw [h0] at this
        exact absurd this (by decide)
      · have := hsp.1
        rw [h0] at this
        exact absurd this (by decide)
      · rw [hsp.2.2] at hD
        obtain ⟨es, ef⟩ := hD.uniq wd64 g3
        rw [hq', hsp.2.1, es, ef, g4]
    rw [hqq] at e
    exact e
theorem conv_nar {n : Nat} (hn : Wd n) (u : Int) (k : Nat) : gen_Convert.f (k + 80) 64 (n : Int) ((RZ 64 u none : Nat) : Int) = some (((RZ n u none : Nat) : Int), none) := by
  obtain ⟨q, hq, hc⟩ := convert_yes wd64 hn (p := 2 ^ 63) (by decide)
  have e := hq k
  have hq0 : q = 2 ^ (n - 1) := by
    rcases hc with ⟨h, _⟩ | ⟨_, h⟩ | ⟨h, _⟩
    · exact absurd h (by decide)
    · exact h
    · exact absurd h (by decide)
  rw [hq0] at e
  exact e
end Go.Proofs.Ytnlbfomlfhigcaa.M
namespace Go.Proofs.Ytnlbfomlfhigcaa.M
open Go.RowKit Go.Proofs.YtnlbfomlfhigcaaW.PrintWords Go.Proofs.YtnlbfomlfhigcaaW.PrintLast Go.Proofs.YtnlbfomlfhigcaaW.PrintMore Go.Proofs.Ytnlbfomlfhigcaa.Q
theorem knd_zero (n : Nat) : knd n 0 = 0 := by
  unfold knd
  rw [if_pos rfl]
theorem knd_nar (n : Nat) : knd n (2 ^ (n - 1)) = 2 := by
  have := pow_pos (n - 1)
  unfold knd
  rw [if_neg (by omega), if_pos rfl]
theorem Means.uniq {n y : Nat} (hn : Wd n) {m m' : Mn} (h : Means n y m) (h' : Means n y m') : m = m' := by
  have hp := pow_pos (n - 1)
  cases m with
  | zero =>
    obtain rfl : y = 0 := h
    cases m' with
    | zero => rfl
    | nar => exact absurd (show 0 = 2 ^ (n - 1) from h') (by omega)
    | real n' s' f' => exact absurd h'.1 (by rw [knd_zero]; decide)
  | nar =>
    obtain rfl : y = 2 ^ (n - 1) := h
    cases m' with
    | zero => exact absurd (show 2 ^ (n - 1) = 0 from h') (by omega)
    | nar => rfl
    | real n' s' f' => exact absurd h'.1 (by rw [knd_nar]; decide)
  | real g s f =>
    cases m' with
    | zero =>
      obtain rfl : y = 0 := h'
      exact absurd h.1 (by rw [knd_zero]; decide)
    | nar =>
      obtain rfl : y = 2 ^ (n - 1) := h'
      exact absurd h.1 (by rw [knd_nar]; decide)
    | real g' s' f' =>
      obtain ⟨_, rfl, hd⟩ := h
      obtain ⟨_, rfl, hd'⟩ := h'
      obtain ⟨rfl, rfl⟩ := hd.uniq hn hd'
      rfl
theorem decode_of {n p : Nat} (hn : Wd n) (hp : p < 2 ^ 64) {m : Mn} (h : Means n (p % 2 ^ n) m) (k : Nat) : codec_Decode.f (k + 8) (n : Int) (p : Int) = some (m.k, m.n, m.s, (m.f : Int), none) := by
  obtain ⟨m', h1, h2⟩ := decodes hn hp
  rw [h.uniq hn h1]
  exact h2 k
def Mn.neg : Mn → Mn
  | .real g s f => .real (!g) s f
  | m => m
theorem Means.neg {n y : Nat} (hn : Wd n) (hy : y < 2 ^ n) {m : Mn} (h : Means n y m) : Means n ((2 ^ n - y) % 2 ^ n) m.neg := by
  have e2 := two_half hn
  cases m with
  | zero =>
    obtain rfl : y = 0 := h
    show (2 ^ n - 0) % 2 ^ n = 0
    rw [Nat.sub_zero, Nat.mod_self]
  | nar =>
    obtain rfl : y = 2 ^ (n - 1) := h
    show (2 ^ n - 2 ^ (n - 1)) % 2 ^ n = 2 ^ (n - 1)
    rw [Nat.mod_eq_of_lt (by omega)]
    omega
  | real g s f =>
    obtain ⟨h1, rfl, hd⟩ := h
    have h3 : y ≠ 0 ∧ y ≠ 2 ^ (n - 1) := by
      unfold knd at h1
      by_cases c1 : y = 0
      · rw [if_pos c1] at h1
        omega
      · rw [if_neg c1] at h1
        by_cases c2 : y = 2 ^ (n - 1)
        · rw [if_pos c2] at h1
          omega
        · exact ⟨c1, c2⟩
    rw [Nat.mod_eq_of_lt (by omega)]
    have hm : mag n (2 ^ n - y) = mag n y := by
      unfold mag
      by_cases c : 2 ^ (n - 1) ≤ y
      · rw [if_pos c, if_neg (by omega)]
      · rw [if_neg c, if_pos (by omega)]
        omega
    refine ⟨?_, ?_, by rw [hm]; exact hd⟩
    · unfold knd
      rw [if_neg (by omega), if_neg (by omega)]
    · unfold sgn
      rw [← decide_not]
      exact decide_eq_decide.mpr (by omega)
theorem Means.widen {n w y : Nat} (hn : Wd n) (hw : Wd w) (hnw : n ≤ w) (hy : y < 2 ^ n) {m : Mn} (h : Means n y m) : Means w (y * 2 ^ (w - n)) m := by
  have hb := hn.bd
  have hp := pow_pos (w - n)
  have hhalf : 2 ^ (n - 1) * 2 ^ (w - n) = 2 ^ (w - 1) := pow_mul (by omega)
  cases m with
  | zero =>
    obtain rfl : y = 0 := h
    show 0 * _ = 0
    rw [Nat.zero_mul]
  | nar =>
    obtain rfl : y = 2 ^ (n - 1) := h
    exact hhalf
  | real g s f =>
    obtain ⟨h1, rfl, hd⟩ := h
    obtain ⟨m1, m2⟩ := mag_bd hn hy h1
    have hD := (hd.widen hn hw hnw m2).2
    have hM1 : 1 ≤ mag n y * 2 ^ (w - n) := Nat.mul_pos m1 hp
    have hM2 : mag n y * 2 ^ (w - n) < 2 ^ (w - 1) := by rw [← hhalf]; exact Nat.mul_lt_mul_of_pos_right m2 hp
    have hs := sg_parts hw (sgn n y) hM1 hM2
    have hm := sg_mul (n := n) (j := w - n) (sgn n y) (p := mag n y)
    rw [sg_mag hy, show n + (w - n) = w by omega] at hm
    rw [hm]
    exact ⟨hs.1, hs.2.1.symm, by rw [hs.2.2]; exact hD⟩
theorem hi_lt {j N c : Nat} (h : Hi j N) (hc : N < 2 ^ c) : j < c := (Nat.pow_lt_pow_iff_right (show 1 < 2 by decide)).1 (Nat.lt_of_le_of_lt h.1 hc)
theorem v_bd {B : Nat} (hB : B = 1249) {w y : Nat} (hw : Wd w) {m : Mn} (h : Means w y m) {Z : Int} (hZ : m.v (-1000) = some Z) : Z.natAbs < 2 ^ B := by
  have hb := hw.bd
  cases m with
  | zero =>
    obtain rfl : 0 = Z := Option.some.inj hZ
    exact pow_pos B
  | nar => cases hZ
  | real g s f =>
    obtain ⟨h1, h2, h3, h4⟩ := h.bd
    obtain rfl : vl (-1000) g s (f * 2 ^ 64) = Z := Option.some.inj hZ
    unfold vl
    rw [sv_abs]
    have e1 : f * 2 ^ 64 < 2 ^ 128 := by omega
    have e2 := Nat.mul_lt_mul_of_pos_right e1 (pow_pos (s - 127 - -1000).toNat)
    rw [← Nat.pow_add] at e2
    exact Nat.lt_of_lt_of_le e2 (pow_le (by omega))
theorem add_mn {n a b : Nat} (hn : Wd n) (ha : a < 2 ^ 64) (hb : b < 2 ^ 64) {m m' : Mn} (h : Means n (a % 2 ^ n) m) (h' : Means n (b % 2 ^ n) m') (k : Nat) :
    sum_Add.f (k + 100) (n : Int) (a : Int) (b : Int) = some (((RZ n (-1000) (oadd (m.v (-1000)) (m'.v (-1000))) : Nat) : Int), none) := by
  have hX := sum_mn hn hn h h' (u := -1000) (by omega) (k + 94)
  obtain ⟨B, hB⟩ : ∃ B : Nat, B = 1249 := ⟨_, rfl⟩
  obtain ⟨t, ht, hr⟩ := round_xout hn hX (by
    intro Z j hZ hj
    have hZb : Z.natAbs < 2 ^ (B + 1) := by
      cases hv : m.v (-1000) with
      | none => rw [hv] at hZ; cases hZ
      | some z =>
        cases hv' : m'.v (-1000) with
        | none => rw [hv, hv'] at hZ; cases hZ
        | some z' =>
          rw [hv, hv'] at hZ
          obtain rfl : z + z' = Z := Option.some.inj hZ
          have g1 := v_bd hB hn h hv
          have g2 := v_bd hB hn h' hv'
          rw [Nat.pow_succ]
          generalize 2 ^ B = p at *
          omega
    have := hi_lt hj hZb
    omega) (k + 20)
  unfold sum_Add.f
  rw [show k + 100 = (k + 92) + 8 from rfl, decode_of hn ha h, Option.bind_some]
  simp only [Option.isNone_none, if_true]
  rw [decode_of hn hb h', Option.bind_some]
  unfold sum_Exact.f
  simp only
  rw [show k + 92 + 8 = (k + 99) + 1 from rfl, mn_of hn h (k + 99), Option.bind_some]
  simp only [Option.isNone_none, if_true]
  rw [mn_of hn h' (k + 99), Option.bind_some]
  simp only [Option.isNone_none, if_true]
  rw [show k + 99 + 1 = (k + 94) + 6 from rfl, ht, Option.bind_some, Option.bind_some]
  simp only [Option.isNone_none, if_true]
  rw [show k + 94 + 6 = (k + 20) + 80 from rfl, hr, Option.bind_some]
theorem mul_bd {B : Nat} (hB : B = 1498) {w y w' y' : Nat} (hw : Wd w) (hw' : Wd w') {m m' : Mn} (h : Means w y m) (h' : Means w' y' m') {Z : Int} (hZ : omul (-1000) m m' = some Z) : Z.natAbs < 2 ^ B := by
  have hb := hw.bd
  have hb' := hw'.bd
  have zz : (0 : Int).natAbs < 2 ^ B := pow_pos B
  cases m with
  | nar => cases hZ
  | zero =>
    cases m' with
    | nar => cases hZ
    | zero =>
      obtain rfl : 0 = Z := Option.some.inj hZ
      exact zz
    | real n' s' f' =>
      obtain rfl : 0 = Z := Option.some.inj hZ
      exact zz
  | real n s f =>
    cases m' with
    | nar => cases hZ
    | zero =>
      obtain rfl : 0 = Z := Option.some.inj hZ
      exact zz
    | real n' s' f' =>
      obtain ⟨h1, h2, h3, h4⟩ := h.bd
      obtain ⟨h1', h2', h3', h4'⟩ := h'.bd
      obtain rfl := Option.some.inj hZ
      rw [sv_abs]
      have h5 := Nat.mul_lt_mul_of_lt_of_le h2 (Nat.le_of_lt h2') (by decide)
      rw [← Nat.pow_add] at h5
      have e2 := Nat.mul_lt_mul_of_pos_right h5 (pow_pos (s + s' - 126 - -1000).toNat)
      rw [← Nat.pow_add] at e2
      exact Nat.lt_of_lt_of_le e2 (pow_le (by omega))
theorem mul_mn {n a b : Nat} (hn : Wd n) (ha : a < 2 ^ 64) (hb : b < 2 ^ 64) {m m' : Mn} (h : Means n (a % 2 ^ n) m) (h' : Means n (b % 2 ^ n) m') (k : Nat) :
    prod_Mul.f (k + 100) (n : Int) (a : Int) (b : Int) = some (((RZ n (-1000) (omul (-1000) m m') : Nat) : Int), none) := by
  obtain ⟨t, ht, hX⟩ := prod_mn hn hn h h' (u := -1000) (by omega) (k + 94)
  obtain ⟨t', ht', hr⟩ := round_xout hn hX (by
    intro Z j hZ hj
    have := hi_lt hj (mul_bd rfl hn hn h h' hZ)
    omega) (k + 20)
  obtain rfl := Option.some.inj ht'
  unfold prod_Mul.f
  rw [show k + 100 = (k + 92) + 8 from rfl, decode_of hn ha h, Option.bind_some]
  simp only [Option.isNone_none, if_true]
  rw [decode_of hn hb h', Option.bind_some]
  simp only
  rw [show k + 92 + 8 = (k + 94) + 6 from rfl, ht, Option.bind_some]
  simp only
  rw [show k + 94 + 6 = (k + 20) + 80 from rfl, hr, Option.bind_some]
theorem RZ_lt {n : Nat} (hn : Wd n) (u : Int) (κ : Option Int) : RZ n u κ < 2 ^ n := by
  have e2 := two_half hn
  have hp := pow_pos (n - 1)
  cases κ with
  | none =>
    show 2 ^ (n - 1) < 2 ^ n
    omega
  | some Z =>
    by_cases h : Z = 0
    · rw [h, RZ_zero]
      omega
    · rw [RZ_some h]
      have hN : Z.natAbs ≠ 0 := by omega
      have hb := tF_bd (j := Nat.log2 Z.natAbs) (N := Z.natAbs) ⟨Nat.log2_self_le hN, Nat.lt_log2_self⟩
      have hr := rpos_bd hn (u + (Nat.log2 Z.natAbs : Int)) (tB (Nat.log2 Z.natAbs) Z.natAbs) hb.2
      exact sg_lt hn _ hr.1 (by omega)
end Go.Proofs.Ytnlbfomlfhigcaa.M
