/- Walks and plain laws that the claim stands on: each theorem named calls says that a call of a function returns what its f computes; the others are plain laws of these f, and the words that the walks use. -/
import Derived.Test.YtnlbfomlfhigcaaFuseExactsV22
import Derived.Test.YtnlbfomlfhigcaaFuseExactsV2
import Derived.Test.YtnlbfomlfhigcaaFuseExactsV21
import Derived.Test.YtnlbfomlfhigcaaFuseExactsV4
import Derived.Test.YtnlbfomlfhigcaaFuseExactsV7
import Derived.Test.YtnlbfomlfhigcaaFuseExactsV8
import Derived.Test.YtnlbfomlfhigcaaFuseExactsV11
import Derived.Test.YtnlbfomlfhigcaaFuseExactsV12
import Derived.Test.YtnlbfomlfhigcaaFuseExactsV15
import Derived.Test.YtnlbfomlfhigcaaFuseExactsV16
import Derived.Test.YtnlbfomlfhigcaaFuseExactsV17
namespace Go.Proofs.Ytnlbfomlfhigcaa.M
open Go.RowKit Go.Proofs.YtnlbfomlfhigcaaW.PrintWords Go.Proofs.YtnlbfomlfhigcaaW.PrintLast Go.Proofs.YtnlbfomlfhigcaaW.PrintMore Go.Proofs.Ytnlbfomlfhigcaa.Q
theorem and3 (s : Int) : IntKind.u64.wrap (Go.bits .and .i64 s 3) = ((s % 4).toNat : Int) := by
  have h : (BitVec.ofInt 64 s &&& BitVec.ofInt 64 3).toNat = (s % 4).toNat := by
    rw [BitVec.toNat_and, BitVec.toNat_ofInt, BitVec.toNat_ofInt]
    have : ((3 : Int) % ((2 ^ 64 : Nat) : Int)).toNat = 2 ^ 2 - 1 := by decide
    rw [this, Nat.and_two_pow_sub_one_eq_mod, p64]
    omega
  have e : Go.bits .and .i64 s 3 = IntKind.i64.wrap ((BitVec.ofInt 64 s &&& BitVec.ofInt 64 3).toNat : Nat) := rfl
  rw [e, h, IntKind.wrap_i64, u64w]
  have : (s % 4).toNat ≤ 3 := by omega
  omega
theorem str_yo {s : Int} {F k : Nat} (h : s / 4 = (k : Int)) (hk : k ≤ 69) : str s F = yo (tl s F) (k + 1) := by
  rw [str_pos h]
  unfold yo
  have e1 : 2 ^ 130 * 2 ^ (69 - k) = 2 ^ (200 - (k + 1)) := by rw [← Nat.pow_add]; exact congrArg (2 ^ ·) (by omega)
  rw [e1, show 70 - (k + 1) = 69 - k by omega, Nat.add_comm]
theorem str_yz {s : Int} {F r : Nat} (h : s / 4 = -(r : Int)) (hr : 1 ≤ r) (hr2 : r ≤ 70) : str s F = yz (tl s F) r := by
  rw [str_neg h hr]
  unfold yz
  have e1 : 2 ^ 129 * 2 ^ (70 - r) = 2 ^ (199 - r) := by rw [← Nat.pow_add]; exact congrArg (2 ^ ·) (by omega)
  rw [e1, Nat.add_comm]
theorem str_lt200 {s : Int} {F : Nat} (h1 : -270 ≤ s) (h2 : s ≤ 270) (hF : F < 2 ^ 128) : str s F < 2 ^ 200 := by
  by_cases h0 : 0 ≤ s / 4
  · obtain ⟨k, hk⟩ := Int.eq_ofNat_of_zero_le h0
    rw [str_yo hk (by omega)]
    exact yo_lt (tl_lt hF) (by omega)
  · obtain ⟨r, hr⟩ : ∃ r : Nat, s / 4 = -(r : Int) := ⟨(-(s / 4)).toNat, by omega⟩
    rw [str_yz hr (by omega) (by omega)]
    exact yz_lt (tl_lt hF) (by omega)
theorem y_e1 (X e : Nat) : X * 2 ^ 73 / 2 ^ 2 + e * 2 ^ (200 - 2) = (e * 2 ^ 127 + X) * 2 ^ 71 := by omega
theorem y_half (t : Nat) : t * 2 ^ 71 / 2 ^ 1 = t * 2 ^ 70 := by omega
theorem y_e2 (t : Nat) : t * 2 ^ 71 / 2 ^ 1 + 0 * 2 ^ (200 - 1) = yo t 0 := by
  rw [y_half, Nat.zero_mul]
  unfold yo
  rw [Nat.sub_zero, Nat.sub_zero, Nat.sub_self]
theorem y_e3 (t : Nat) : t * 2 ^ 71 / 2 ^ 1 + 1 * 2 ^ (200 - 1) = yz t 0 := by
  rw [y_half, Nat.one_mul]
  rfl
theorem y_lt (t : Nat) (h : t < 2 ^ 129) : t * 2 ^ 71 < 2 ^ 200 ∧ t * 2 ^ 71 % 2 ^ 1 = 0 := by omega
theorem y_lt0 (X : Nat) (h : X < 2 ^ 127) : X * 2 ^ 73 < 2 ^ 200 ∧ X * 2 ^ 73 % 2 ^ 2 = 0 ∧ X * 2 ^ 73 % 2 ^ 72 = 0 := by omega
theorem under_end0 (b : Bool) {t : Nat} (h : t < 2 ^ 129) : round_under.f (hiY (t * 2 ^ 71)) (loY (t * 2 ^ 71)) 0 1 (reY b (t * 2 ^ 71)) = some (hiY (yo t 0), loY (yo t 0), reY b (yo t 0)) := by
  have hu := under_Y (Y := t * 2 ^ 71) (m := 1) (c := 0) b (y_lt t h).1 (.inl rfl) (by decide) (y_lt t h).2
  rw [y_e2] at hu
  exact hu
theorem under_end1 (b : Bool) {t : Nat} (h : t < 2 ^ 129) : round_under.f (hiY (t * 2 ^ 71)) (loY (t * 2 ^ 71)) 1 1 (reY b (t * 2 ^ 71)) = some (hiY (yz t 0), loY (yz t 0), reY b (yz t 0)) := by
  have hu := under_Y (Y := t * 2 ^ 71) (m := 1) (c := 1) b (y_lt t h).1 (.inl rfl) (by decide) (y_lt t h).2
  rw [y_e3] at hu
  exact hu
theorem under_exp (b : Bool) {X e : Nat} (h : X < 2 ^ 127) (he : e < 2 ^ 2) : round_under.f (hiY (X * 2 ^ 73)) (loY (X * 2 ^ 73)) (e : Int) 2 b = some (hiY ((e * 2 ^ 127 + X) * 2 ^ 71), loY ((e * 2 ^ 127 + X) * 2 ^ 71), reY b ((e * 2 ^ 127 + X) * 2 ^ 71)) := by
  have h0 := y_lt0 X h
  have hu := under_Y (Y := X * 2 ^ 73) (m := 2) (c := e) b h0.1 (.inr rfl) he h0.2.1
  rw [y_e1] at hu
  have hR : reY b (X * 2 ^ 73) = b := by
    unfold reY
    rw [decide_eq_false (by rw [h0.2.2]; simp), Bool.or_false]
  rw [hR] at hu
  exact hu
theorem shl_first {h l : Nat} (hh : 2 ^ 63 ≤ h) (hh2 : h < 2 ^ 64) (hl : l < 2 ^ 64) : ∃ bb, twin_Shl.f (h : Int) (l : Int) 1 = some (hiY ((h * 2 ^ 64 + l - 2 ^ 127) * 2 ^ 73), loY ((h * 2 ^ 64 + l - 2 ^ 127) * 2 ^ 73), bb, none) := by
  obtain ⟨bb, hS⟩ := Shl_tw (j := 1) hh2 hl (by omega)
  refine ⟨bb, ?_⟩
  unfold hiY loY
  rw [show ((h * 2 ^ 64 + l) * 2 ^ 1 % 2 ^ 128 / 2 ^ 64) = ((h * 2 ^ 64 + l - 2 ^ 127) * 2 ^ 73 / 2 ^ 72 / 2 ^ 64) by omega, show ((h * 2 ^ 64 + l) * 2 ^ 1 % 2 ^ 64) = ((h * 2 ^ 64 + l - 2 ^ 127) * 2 ^ 73 / 2 ^ 72 % 2 ^ 64) by omega] at hS
  exact hS
theorem lay_ones {n q : Nat} (hn : Wd n) (b : Bool) {s : Int} {F : Nat} (hF : F < 2 ^ 128) (hq : s / 4 = (q : Int)) (hq2 : q ≤ 65) (k : Nat) :
    round_Cut.l0 (k + 79) (n : Int) (reY b (yo (tl s F) 0)) (wrap64 ((q : Int) + 1)) 0 (hiY (yo (tl s F) 0)) (loY (yo (tl s F) 0)) = some (((str s F / 2 ^ (201 - n) : Nat) : Int), ((lft n (str s F) b : Nat) : Int), none) := by
  have ht := tl_lt (s := s) hF
  have hw : wrap64 ((q : Int) + 1) = ((q + 1 : Nat) : Int) := by unfold wrap64; omega
  have hl0 := l0_Y (n := n) (r := q + 1) b ht (by omega) (k + 77 - q) (q + 1) 0 (Nat.zero_add _)
  rw [show k + 77 - q + (q + 1) + 1 = k + 79 by omega] at hl0
  rw [hw]
  refine Eq.trans hl0 ?_
  rw [← str_yo hq (by omega), show k + 77 - q = (k + 75 - q) + 2 by omega]
  exact j3_Y hn b (str_lt200 (by omega) (by omega) hF) _
theorem lay_zeros {n r : Nat} (hn : Wd n) (b : Bool) {s : Int} {F : Nat} (hF : F < 2 ^ 128) (hr : s / 4 = -(r : Int)) (hr1 : 1 ≤ r) (hr2 : r ≤ 65) (k : Nat) :
    round_Cut.l1 (k + 79) (n : Int) (reY b (yz (tl s F) 0)) (wrap64 (-(-(r : Int)))) 0 (hiY (yz (tl s F) 0)) (loY (yz (tl s F) 0)) = some (((str s F / 2 ^ (201 - n) : Nat) : Int), ((lft n (str s F) b : Nat) : Int), none) := by
  have ht := tl_lt (s := s) hF
  have hw : wrap64 (-(-(r : Int))) = (r : Int) := by unfold wrap64; omega
  have hl1 := l1_Y (n := n) (r := r) b ht (by omega) (k + 78 - r) r 0 (Nat.zero_add _)
  rw [show k + 78 - r + r + 1 = k + 79 by omega] at hl1
  rw [hw]
  refine Eq.trans hl1 ?_
  rw [← str_yz hr (by omega) (by omega), show k + 78 - r = (k + 76 - r) + 2 by omega]
  exact j3_Y hn b (str_lt200 (by omega) (by omega) hF) _
end Go.Proofs.Ytnlbfomlfhigcaa.M
namespace Go.Proofs.Ytnlbfomlfhigcaa.M
open Go.RowKit Go.Proofs.YtnlbfomlfhigcaaW.PrintWords Go.Proofs.YtnlbfomlfhigcaaW.PrintLast Go.Proofs.YtnlbfomlfhigcaaW.PrintMore Go.Proofs.Ytnlbfomlfhigcaa.Q
theorem j0_str {n : Nat} (hn : Wd n) (neg b : Bool) {s : Int} {h l : Nat} (hh : 2 ^ 63 ≤ h) (hh2 : h < 2 ^ 64) (hl : l < 2 ^ 64) (h1 : 8 - 4 * (n : Int) ≤ s) (h2 : s < 4 * (n : Int) - 8) (k : Nat) :
    round_Cut.j0 (k + 80) (n : Int) 1 neg s (h : Int) (l : Int) b = some (((str s (h * 2 ^ 64 + l) / 2 ^ (201 - n) : Nat) : Int), ((lft n (str s (h * 2 ^ 64 + l)) b : Nat) : Int), none) := by
  have hb := hn.bd
  have hF : h * 2 ^ 64 + l < 2 ^ 128 := by omega
  have hX : h * 2 ^ 64 + l - 2 ^ 127 < 2 ^ 127 := by omega
  obtain ⟨bb, hS⟩ := shl_first hh hh2 hl
  have hu1 := under_exp (e := (s % 4).toNat) b hX (by omega)
  have ht := tl_lt (s := s) hF
  have e1 : (s % 4).toNat * 2 ^ 127 + (h * 2 ^ 64 + l - 2 ^ 127) = tl s (h * 2 ^ 64 + l) := rfl
  rw [e1] at hu1
  rw [show k + 80 = (k + 79) + 1 from rfl, round_Cut.j0, hS, and3]
  simp only [Option.bind_some]
  rw [hu1]
  simp only [Option.bind_some]
  clear hu1 hS e1 hX
  by_cases h0 : 0 ≤ s / 4
  · obtain ⟨q, hq⟩ := Int.eq_ofNat_of_zero_le h0
    rw [if_pos h0, under_end0 b ht, hq, Option.bind_some]
    exact lay_ones hn b hF hq (by omega) k
  · obtain ⟨r, hr⟩ : ∃ r : Nat, s / 4 = -(r : Int) := ⟨(-(s / 4)).toNat, by omega⟩
    rw [if_neg h0, under_end1 b ht, hr, Option.bind_some]
    exact lay_zeros hn b hF hr (by omega) (by omega) k
theorem tl_least {s : Int} (h : s % 4 = 0) : tl s (2 ^ 127) = 0 := by
  unfold tl
  rw [h, Nat.sub_self]
  rfl
theorem held_val (s : Int) : round_held.f s = some (if s < -1099511627776 then -1099511627776 else if 1099511627776 < s then 1099511627776 else s) := by
  unfold round_held.f mx mn
  congr 1
  split <;> split <;> (try split) <;> (try split) <;> omega
theorem sound_real (k : Nat) (neg b : Bool) {s : Int} {h l : Nat} (hh : 2 ^ 63 ≤ h) (hh2 : h < 2 ^ 64) (h1 : -1099511627776 ≤ s) (h2 : s ≤ 1099511627776) : round_sound.f (k + 1) 1 neg s (h : Int) (l : Int) b = some true := by
  unfold round_sound.f
  rw [if_neg (by decide), round_sound.j0, if_neg (by decide), if_pos rfl, if_pos (by rw [p63] at hh; rw [p64] at hh2; omega), held_val, if_neg (by omega), if_neg (by omega)]
  simp
theorem sound_zero (k : Nat) : round_sound.f (k + 1) 0 false 0 0 0 false = some true := by
  unfold round_sound.f
  rw [if_pos rfl, round_sound.j0, if_pos (by decide)]
  rfl
theorem sound_nar (k : Nat) : round_sound.f (k + 1) 2 false 0 0 0 false = some true := by
  unfold round_sound.f
  rw [if_neg (by decide), round_sound.j0, if_pos (by decide)]
  rfl
theorem rnd_lft {n Y : Nat} (hn : Wd n) (b : Bool) : rnd (2 ^ (202 - n)) (2 * Y + b.toNat) = if lft n Y b = 3 ∨ (lft n Y b = 2 ∧ Y / 2 ^ (201 - n) % 2 = 1) then Y / 2 ^ (201 - n) + 1 else Y / 2 ^ (201 - n) := by
  have hbb := toNat_le b
  rw [(unit_eq hn).2]
  have hp := pow_pos (201 - n)
  have hd : (2 * Y + b.toNat) / (2 * 2 ^ (201 - n)) = Y / 2 ^ (201 - n) := by
    rw [← Nat.div_div_eq_div_mul]
    congr 1
    omega
  have hm : (2 * Y + b.toNat) % (2 * 2 ^ (201 - n)) = 2 * (Y % 2 ^ (201 - n)) + b.toNat := by
    have a1 := Nat.div_add_mod (2 * Y + b.toNat) (2 * 2 ^ (201 - n))
    have a2 := Nat.div_add_mod Y (2 ^ (201 - n))
    rw [hd, Nat.mul_assoc] at a1
    omega
  unfold rnd lft
  rw [hd, hm]
  generalize 2 * (Y % 2 ^ (201 - n)) + b.toNat = z
  generalize Y / 2 ^ (201 - n) = q
  generalize 2 ^ (201 - n) = d
  by_cases c1 : d < z
  · rw [if_pos (.inl (by omega)), if_pos c1, if_pos (.inl rfl)]
  · rw [if_neg c1]
    by_cases c2 : d = z
    · rw [if_pos c2]
      by_cases c3 : q % 2 = 1
      · rw [if_pos (.inr ⟨by omega, c3⟩), if_pos (.inr ⟨rfl, c3⟩)]
      · rw [if_neg (by omega), if_neg (by omega)]
    · rw [if_neg c2, if_neg (by omega)]
      split <;> rw [if_neg (by omega)]
def sg (n : Nat) (neg : Bool) (p : Nat) : Nat := if neg then 2 ^ n - p else p
theorem fold_sg {n : Nat} (hn : Wd n) (neg : Bool) {p : Nat} (h1 : 1 ≤ p) (h2 : p < 2 ^ (n - 1)) :
    (if neg = true then (shape_Fold.f (n : Int) (IntKind.u64.wrap (-(p : Int)))).bind (fun bt => some (bt.1, bt.2)) else (shape_Fold.f (n : Int) (p : Int)).bind (fun bt => some (bt.1, bt.2))) = some (((sg n neg p : Nat) : Int), none) := by
  have hb := hn.bd
  have e := two_half hn
  have hn64 : 2 ^ n ≤ 2 ^ 64 := pow_le hb.2
  cases neg with
  | true =>
    rw [if_pos rfl, show IntKind.u64.wrap (-(p : Int)) = ((2 ^ 64 - p : Nat) : Int) by rw [u64w, p64]; rw [p64] at hn64; omega, fold_yes hn (by omega)]
    have : (2 ^ 64 - p) % 2 ^ n = 2 ^ n - p := by
      rw [pow_split (show n ≤ 64 from hb.2)]
      have hq := pow_pos (64 - n)
      generalize 2 ^ (64 - n) = q at *
      obtain ⟨q, rfl⟩ : ∃ z, q = z + 1 := ⟨q - 1, by omega⟩
      rw [Nat.mul_succ, show 2 ^ n * q + 2 ^ n - p = (2 ^ n - p) + 2 ^ n * q by omega, Nat.add_mul_mod_self_left, Nat.mod_eq_of_lt (by omega)]
    rw [this]
    rfl
  | false =>
    rw [if_neg (by decide), fold_yes hn (by omega), Nat.mod_eq_of_lt (by omega)]
    rfl
theorem round_real {n : Nat} (hn : Wd n) (neg b : Bool) {s : Int} {h l : Nat} (hh : 2 ^ 63 ≤ h) (hh2 : h < 2 ^ 64) (hl : l < 2 ^ 64) (h1 : -1099511627776 ≤ s) (h2 : s ≤ 1099511627776) (k : Nat) :
    round_Round.f (k + 80) (n : Int) 1 neg s (h : Int) (l : Int) b = some (((sg n neg (rpos n s (h * 2 ^ 64 + l) b) : Nat) : Int), none) := by
  have hb := hn.bd
  have hF : 2 ^ 127 ≤ h * 2 ^ 64 + l ∧ h * 2 ^ 64 + l < 2 ^ 128 := by omega
  have hR := rpos_bd hn s b hF.2
  have hsn : wrap64 (-(4 * (n : Int) - 8)) = 8 - 4 * (n : Int) := by unfold wrap64; omega
  have hq2 : 2 ≤ 2 ^ (n - 1) := by have : 2 ^ 1 ≤ 2 ^ (n - 1) := pow_le (by omega); omega

  have hcut : ∃ P L : Nat, round_Cut.f (k + 80) (n : Int) 1 neg s (h : Int) (l : Int) b = some ((P : Int), (L : Int), none) ∧ P < 2 ^ (n - 1) ∧ rpos n s (h * 2 ^ 64 + l) b = if L = 3 ∨ (L = 2 ∧ P % 2 = 1) then P + 1 else P := by
    unfold round_Cut.f
    rw [of_yes hn]
    simp only [Option.bind_some, Option.isNone_none, if_true]
    rw [sound_real (k + 79) neg b hh hh2 h1 h2]
    simp only [Option.bind_some, if_true]
    rw [if_neg (by decide), if_neg (by decide), hsn]
    by_cases c1 : 4 * (n : Int) - 8 ≤ s
    · rw [if_pos c1]
      refine ⟨2 ^ (n - 1) - 1, 0, rfl, by omega, ?_⟩
      unfold rpos
      rw [if_pos c1, if_neg (by omega)]
    · rw [if_neg (by omega)]
      by_cases c2 : s < 8 - 4 * (n : Int)
      · rw [if_pos c2]
        refine ⟨1, 0, rfl, by omega, ?_⟩
        unfold rpos
        rw [if_neg c1, if_pos c2, if_neg (by omega)]
      · rw [if_neg c2]
        have hj := j0_str hn neg b hh hh2 hl (show 8 - 4 * (n : Int) ≤ s by omega) (by omega) k
        have hin := rnd_in hn b (s := s) (F := h * 2 ^ 64 + l) (by omega) (by omega) hF.2
        have hrl := rnd_lft (Y := str s (h * 2 ^ 64 + l)) hn b
        have hbd := rnd_bd (2 ^ (202 - n)) (2 * str s (h * 2 ^ 64 + l) + b.toNat)
        have hd : (2 * str s (h * 2 ^ 64 + l) + b.toNat) / 2 ^ (202 - n) = str s (h * 2 ^ 64 + l) / 2 ^ (201 - n) := by
          rw [(unit_eq hn).2, ← Nat.div_div_eq_div_mul]
          have := toNat_le b
          congr 1
          omega
        have hfin : ∃ P L : Nat, round_Cut.j0 (k + 80) (n : Int) 1 neg s (h : Int) (l : Int) b = some ((P : Int), (L : Int), none) ∧ P < 2 ^ (n - 1) ∧ rpos n s (h * 2 ^ 64 + l) b = if L = 3 ∨ (L = 2 ∧ P % 2 = 1) then P + 1 else P := by
          refine ⟨_, _, hj, by omega, ?_⟩
          unfold rpos
          rw [if_neg c1, if_neg c2, hrl]
        by_cases c3 : s = 8 - 4 * (n : Int)
        · rw [if_pos c3]
          by_cases c4 : (h : Int) = 9223372036854775808
          · rw [if_pos c4]
            by_cases c5 : (l : Int) = 0
            · rw [if_pos c5]
              cases b with
              | true => rw [if_pos rfl]; exact hfin
              | false =>
                rw [if_neg (by decide)]
                refine ⟨1, 0, rfl, by omega, ?_⟩
                rw [if_neg (by omega)]
                unfold rpos
                rw [if_neg c1, if_neg c2]
                have hF2 : h * 2 ^ 64 + l = 2 ^ 127 := by omega
                have hr : s / 4 = -((n - 2 : Nat) : Int) := by omega
                rw [hF2, str_neg hr (by omega)]
                have ht : tl s (2 ^ 127) = 0 := tl_least (by omega)
                rw [ht, Nat.zero_mul, Nat.add_zero]
                have e1 : 2 * (2 ^ 129 * 2 ^ (70 - (n - 2))) + false.toNat = 1 * 2 ^ (202 - n) := by
                  rw [← Nat.pow_add, Nat.one_mul, show 129 + (70 - (n - 2)) = 201 - n by omega, (unit_eq hn).2]
                  rfl
                rw [e1]
                exact rnd_mul (pow_pos _)
            · rw [if_neg c5]; exact hfin
          · rw [if_neg c4]; exact hfin
        · rw [if_neg c3]; exact hfin
  obtain ⟨P, L, hc, hP, hrp⟩ := hcut
  unfold round_Round.f
  rw [hc]
  simp only [Option.bind_some, Option.isNone_none, if_true]
  have hn64 : 2 ^ (n - 1) ≤ 2 ^ 63 := pow_le (by omega)
  have hand : Go.bits .and .u64 (P : Int) 1 = ((P % 2 : Nat) : Int) := and_mask P 1 (by omega) (by omega)
  have hup : IntKind.u64.wrap ((P : Int) + 1) = ((P + 1 : Nat) : Int) := by rw [u64w]; rw [p63] at hn64; omega
  rw [hand, hup]
  have key : ∀ p : Nat, rpos n s (h * 2 ^ 64 + l) b = p → (if neg = true then (shape_Fold.f (n : Int) (IntKind.u64.wrap (-(p : Int)))).bind (fun bt => some (bt.1, bt.2)) else (shape_Fold.f (n : Int) (p : Int)).bind (fun bt => some (bt.1, bt.2))) = some (((sg n neg (rpos n s (h * 2 ^ 64 + l) b) : Nat) : Int), none) := by
    rintro p rfl
    exact fold_sg hn neg hR.1 (by omega)
  by_cases c2 : (L : Int) = 2
  · rw [if_pos c2]
    by_cases c3 : ((P % 2 : Nat) : Int) = 0
    · rw [if_pos c3]
      exact key P (by rw [hrp, if_neg (by omega)])
    · rw [if_neg c3]
      exact key (P + 1) (by rw [hrp, if_pos (by omega)])
  · rw [if_neg c2]
    by_cases c3 : (L : Int) = 3
    · rw [if_pos c3]
      exact key (P + 1) (by rw [hrp, if_pos (by omega)])
    · rw [if_neg c3]
      exact key P (by rw [hrp, if_neg (by omega)])
theorem round_zero {n : Nat} (hn : Wd n) (k : Nat) : round_Round.f (k + 1) (n : Int) 0 false 0 0 0 false = some (0, none) := by
  unfold round_Round.f round_Cut.f
  rw [of_yes hn]
  simp only [Option.bind_some, Option.isNone_none, if_true]
  rw [sound_zero k]
  simp only [Option.bind_some, if_true, Option.isNone_none]
  rw [if_neg (by decide), if_neg (by decide), if_neg (by decide)]
  have := fold_yes hn (x := 0) (by decide)
  rw [Nat.zero_mod] at this
  have h2 : shape_Fold.f (n : Int) 0 = some (0, none) := this
  rw [h2]
  rfl
theorem round_nar {n : Nat} (hn : Wd n) (k : Nat) : round_Round.f (k + 1) (n : Int) 2 false 0 0 0 false = some (((2 ^ (n - 1) : Nat) : Int), none) := by
  have hb := hn.bd
  have e := two_half hn
  have hp := pow_pos (n - 1)
  unfold round_Round.f round_Cut.f
  rw [of_yes hn]
  simp only [Option.bind_some, Option.isNone_none, if_true]
  rw [sound_nar k]
  simp only [Option.bind_some, if_true]
  rw [if_neg (by decide)]
  simp only [Option.bind_some, Option.isNone_none, if_true]
  rw [if_neg (by decide), if_neg (by decide), if_neg (by decide)]
  have hn64 : 2 ^ n ≤ 2 ^ 64 := pow_le hb.2
  rw [fold_yes hn (x := 2 ^ (n - 1)) (by omega), Nat.mod_eq_of_lt (by omega)]
  rfl
end Go.Proofs.Ytnlbfomlfhigcaa.M
namespace Go.Proofs.Ytnlbfomlfhigcaa.Q
open Go.RowKit Go.Proofs.YtnlbfomlfhigcaaW.PrintWords Go.Proofs.YtnlbfomlfhigcaaW.PrintLast Go.Proofs.YtnlbfomlfhigcaaW.PrintMore
attribute [local go_sem] max2_int min2_int max_two min_two max_three min_three max_four min_four
set_option linter.unusedVariables false
set_option linter.unusedSimpArgs false
end Go.Proofs.Ytnlbfomlfhigcaa.Q
namespace Go.Proofs.Ytnlbfomlfhigcaa.Q
open Go.RowKit Go.Proofs.YtnlbfomlfhigcaaW.PrintWords Go.Proofs.YtnlbfomlfhigcaaW.PrintLast Go.Proofs.YtnlbfomlfhigcaaW.PrintMore
attribute [local go_sem] max2_int min2_int max_two min_two max_three min_three max_four min_four
set_option linter.unusedVariables false
set_option linter.unusedSimpArgs false
end Go.Proofs.Ytnlbfomlfhigcaa.Q
namespace Go.Proofs.Ytnlbfomlfhigcaa.Q
open Go.RowKit Go.Proofs.YtnlbfomlfhigcaaW.PrintWords Go.Proofs.YtnlbfomlfhigcaaW.PrintLast Go.Proofs.YtnlbfomlfhigcaaW.PrintMore
attribute [local go_sem] max2_int min2_int max_two min_two max_three min_three max_four min_four
set_option linter.unusedVariables false
set_option linter.unusedSimpArgs false
end Go.Proofs.Ytnlbfomlfhigcaa.Q
namespace Go.Proofs.Ytnlbfomlfhigcaa.Q
open Go.RowKit Go.Proofs.YtnlbfomlfhigcaaW.PrintWords Go.Proofs.YtnlbfomlfhigcaaW.PrintLast Go.Proofs.YtnlbfomlfhigcaaW.PrintMore
attribute [local go_sem] max2_int min2_int max_two min_two max_three min_three max_four min_four
set_option linter.unusedVariables false
set_option linter.unusedSimpArgs false
end Go.Proofs.Ytnlbfomlfhigcaa.Q
namespace Go.Proofs.Ytnlbfomlfhigcaa.Q
open Go.RowKit Go.Proofs.YtnlbfomlfhigcaaW.PrintWords Go.Proofs.YtnlbfomlfhigcaaW.PrintLast Go.Proofs.YtnlbfomlfhigcaaW.PrintMore
attribute [local go_sem] max2_int min2_int max_two min_two max_three min_three max_four min_four
set_option linter.unusedVariables false
set_option linter.unusedSimpArgs false
end Go.Proofs.Ytnlbfomlfhigcaa.Q
namespace Go.Proofs.Ytnlbfomlfhigcaa.Q
open Go.RowKit Go.Proofs.YtnlbfomlfhigcaaW.PrintWords Go.Proofs.YtnlbfomlfhigcaaW.PrintLast Go.Proofs.YtnlbfomlfhigcaaW.PrintMore
attribute [local go_sem] max2_int min2_int max_two min_two max_three min_three max_four min_four
set_option linter.unusedVariables false
set_option linter.unusedSimpArgs false
end Go.Proofs.Ytnlbfomlfhigcaa.Q
namespace Go.Proofs.Ytnlbfomlfhigcaa.Q
open Go.RowKit Go.Proofs.YtnlbfomlfhigcaaW.PrintWords Go.Proofs.YtnlbfomlfhigcaaW.PrintLast Go.Proofs.YtnlbfomlfhigcaaW.PrintMore
attribute [local go_sem] max2_int min2_int max_two min_two max_three min_three max_four min_four
set_option linter.unusedVariables false
set_option linter.unusedSimpArgs false
end Go.Proofs.Ytnlbfomlfhigcaa.Q
namespace Go.Proofs.Ytnlbfomlfhigcaa.Q
open Go.RowKit Go.Proofs.YtnlbfomlfhigcaaW.PrintWords Go.Proofs.YtnlbfomlfhigcaaW.PrintLast Go.Proofs.YtnlbfomlfhigcaaW.PrintMore
attribute [local go_sem] max2_int min2_int max_two min_two max_three min_three max_four min_four
set_option linter.unusedVariables false
set_option linter.unusedSimpArgs false
end Go.Proofs.Ytnlbfomlfhigcaa.Q
namespace Go.Proofs.Ytnlbfomlfhigcaa.Q
open Go.RowKit Go.Proofs.YtnlbfomlfhigcaaW.PrintWords Go.Proofs.YtnlbfomlfhigcaaW.PrintLast Go.Proofs.YtnlbfomlfhigcaaW.PrintMore
attribute [local go_sem] max2_int min2_int max_two min_two max_three min_three max_four min_four
set_option linter.unusedVariables false
set_option linter.unusedSimpArgs false
end Go.Proofs.Ytnlbfomlfhigcaa.Q
namespace Go.Proofs.Ytnlbfomlfhigcaa.Q
open Go.RowKit Go.Proofs.YtnlbfomlfhigcaaW.PrintWords Go.Proofs.YtnlbfomlfhigcaaW.PrintLast Go.Proofs.YtnlbfomlfhigcaaW.PrintMore
attribute [local go_sem] max2_int min2_int max_two min_two max_three min_three max_four min_four
set_option linter.unusedVariables false
set_option linter.unusedSimpArgs false
end Go.Proofs.Ytnlbfomlfhigcaa.Q
namespace Go.Proofs.Ytnlbfomlfhigcaa.M
open Go.RowKit Go.Proofs.YtnlbfomlfhigcaaW.PrintWords Go.Proofs.YtnlbfomlfhigcaaW.PrintLast Go.Proofs.YtnlbfomlfhigcaaW.PrintMore Go.Proofs.Ytnlbfomlfhigcaa.Q
def bitc (len v i : Nat) : Nat := 48 + v / 2 ^ (len - 1 - i) % 2
def IsBits (b : ByteArray) (len v : Nat) : Prop := b.size = len ∧ v < 2 ^ len ∧ ∀ i, i < len → bt b (i : Int) = ((bitc len v i : Nat) : Int)
theorem append_size (a b : ByteArray) : (a ++ b).size = a.size + b.size := by simp
theorem bt_append (a b : ByteArray) (i : Nat) (hi : i < a.size + b.size) : bt (a ++ b) (i : Int) = if i < a.size then bt a (i : Int) else bt b ((i - a.size : Nat) : Int) := by
  unfold bt
  simp only [Int.toNat_natCast]
  rw [dif_pos (by rw [append_size]; exact hi)]
  by_cases c : i < a.size
  · rw [if_pos c, dif_pos c, ByteArray.getElem_append_left c]
  · rw [if_neg c, dif_pos (by omega), ByteArray.getElem_append_right (by omega)]
theorem IsBits.append {a b : ByteArray} {la lb va vb : Nat} (h : IsBits a la va) (h' : IsBits b lb vb) : IsBits (a ++ b) (la + lb) (va * 2 ^ lb + vb) := by
  obtain ⟨h1, h2, h3⟩ := h
  obtain ⟨g1, g2, g3⟩ := h'
  refine ⟨by rw [append_size, h1, g1], ?_, fun i hi => ?_⟩
  · have : (va + 1) * 2 ^ lb ≤ 2 ^ la * 2 ^ lb := Nat.mul_le_mul_right _ h2
    rw [← Nat.pow_add, Nat.add_mul, Nat.one_mul] at this
    omega
  · rw [bt_append a b i (by rw [h1, g1]; exact hi), h1]
    by_cases c : i < la
    · rw [if_pos c, h3 i c]
      congr 1
      unfold bitc
      congr 1
      have e : la + lb - 1 - i = lb + (la - 1 - i) := by omega
      rw [e, Nat.pow_add, ← Nat.div_div_eq_div_mul, Nat.add_comm (va * 2 ^ lb), Nat.add_mul_div_right _ _ (pow_pos lb), Nat.div_eq_of_lt g2, Nat.zero_add]
    · rw [if_neg c, g3 (i - la) (by omega)]
      congr 1
      unfold bitc
      congr 1
      have e : la + lb - 1 - i = lb - 1 - (i - la) := by omega
      have e2 : 2 ^ lb = 2 ^ (lb - 1 - (i - la)) * (2 * 2 ^ (i - la)) := by rw [← Nat.pow_succ', ← Nat.pow_add]; exact congrArg (2 ^ ·) (by omega)
      rw [e, e2]
      have e3 : va * (2 ^ (lb - 1 - (i - la)) * (2 * 2 ^ (i - la))) + vb = vb + (va * 2 ^ (i - la)) * 2 * 2 ^ (lb - 1 - (i - la)) := by
        rw [Nat.add_comm]
        congr 1
        rw [Nat.mul_comm (2 ^ (lb - 1 - (i - la))), ← Nat.mul_assoc, ← Nat.mul_assoc, Nat.mul_right_comm va]
      rw [e3, Nat.add_mul_div_right _ _ (pow_pos _), Nat.add_mul_mod_self_right]
end Go.Proofs.Ytnlbfomlfhigcaa.M
namespace Go.Proofs.Ytnlbfomlfhigcaa.Q
open Go.RowKit Go.Proofs.YtnlbfomlfhigcaaW.PrintWords Go.Proofs.YtnlbfomlfhigcaaW.PrintLast Go.Proofs.YtnlbfomlfhigcaaW.PrintMore
attribute [local go_sem] max2_int min2_int max_two min_two max_three min_three max_four min_four
set_option linter.unusedVariables false
set_option linter.unusedSimpArgs false
end Go.Proofs.Ytnlbfomlfhigcaa.Q
namespace Go.Proofs.Ytnlbfomlfhigcaa.Q
open Go.RowKit Go.Proofs.YtnlbfomlfhigcaaW.PrintWords Go.Proofs.YtnlbfomlfhigcaaW.PrintLast Go.Proofs.YtnlbfomlfhigcaaW.PrintMore
attribute [local go_sem] max2_int min2_int max_two min_two max_three min_three max_four min_four
set_option linter.unusedVariables false
set_option linter.unusedSimpArgs false
end Go.Proofs.Ytnlbfomlfhigcaa.Q
namespace Go.Proofs.Ytnlbfomlfhigcaa.Q
open Go.RowKit Go.Proofs.YtnlbfomlfhigcaaW.PrintWords Go.Proofs.YtnlbfomlfhigcaaW.PrintLast Go.Proofs.YtnlbfomlfhigcaaW.PrintMore
attribute [local go_sem] max2_int min2_int max_two min_two max_three min_three max_four min_four
set_option linter.unusedVariables false
set_option linter.unusedSimpArgs false
end Go.Proofs.Ytnlbfomlfhigcaa.Q
namespace Go.Proofs.Ytnlbfomlfhigcaa.Q
open Go.RowKit Go.Proofs.YtnlbfomlfhigcaaW.PrintWords Go.Proofs.YtnlbfomlfhigcaaW.PrintLast Go.Proofs.YtnlbfomlfhigcaaW.PrintMore
attribute [local go_sem] max2_int min2_int max_two min_two max_three min_three max_four min_four
set_option linter.unusedVariables false
set_option linter.unusedSimpArgs false
end Go.Proofs.Ytnlbfomlfhigcaa.Q
namespace Go.Proofs.Ytnlbfomlfhigcaa.M
open Go.RowKit Go.Proofs.YtnlbfomlfhigcaaW.PrintWords Go.Proofs.YtnlbfomlfhigcaaW.PrintLast Go.Proofs.YtnlbfomlfhigcaaW.PrintMore Go.Proofs.Ytnlbfomlfhigcaa.Q
inductive Mn where
  | zero
  | nar
  | real (n : Bool) (s : Int) (f : Nat)
def Mn.f : Mn → Nat
  | .real _ _ f => f
  | _ => 0
def Means (n y : Nat) : Mn → Prop
  | .zero => y = 0
  | .nar => y = 2 ^ (n - 1)
  | .real g s f => knd n y = 1 ∧ g = sgn n y ∧ Dec n (mag n y) s f
theorem Means.bd {n y : Nat} {g : Bool} {s : Int} {f : Nat} (h : Means n y (.real g s f)) : 2 ^ 63 ≤ f ∧ f < 2 ^ 64 ∧ 8 - 4 * (n : Int) ≤ s ∧ s ≤ 4 * (n : Int) - 8 := by
  obtain ⟨_, _, h1, h2, h3, h4, _⟩ := h
  exact ⟨h1, h2, h3, h4⟩
theorem Hi.ne {j N : Nat} (h : Hi j N) : N ≠ 0 := by
  have := h.1
  have := pow_pos j
  omega
end Go.Proofs.Ytnlbfomlfhigcaa.M
namespace Go.Proofs.Ytnlbfomlfhigcaa.M
open Go.RowKit Go.Proofs.YtnlbfomlfhigcaaW.PrintWords Go.Proofs.YtnlbfomlfhigcaaW.PrintLast Go.Proofs.YtnlbfomlfhigcaaW.PrintMore Go.Proofs.Ytnlbfomlfhigcaa.Q
theorem bits_l0 (k : Nat) : ∀ (j t c : Nat), t < 2 ^ j → (j = 0 ∨ 2 ^ (j - 1) ≤ t) → j ≤ 24 → c + j ≤ 5000 → vernierref04_Bits.l0 (k + j + 1) (c : Int) (t : Int) = some ((c + j : Nat) : Int) := by
  intro j
  induction j with
  | zero =>
    intro t c h _ _ _
    obtain rfl : t = 0 := by omega
    rw [vernierref04_Bits.l0, if_neg (by omega)]
    rfl
  | succ j ih =>
    intro t c h h2 h3 h4
    have hp := Nat.one_le_two_pow (n := j)
    have ht : 2 ^ j ≤ t := h2.resolve_left (by omega)
    rw [Nat.pow_succ] at h
    have hw : wrap64 ((c : Int) + 1) = ((c + 1 : Nat) : Int) := by unfold wrap64; omega
    have hq : wrap64 (Int.tdiv (t : Int) 2) = ((t / 2 : Nat) : Int) := by
      have h24 : 2 ^ j ≤ 2 ^ 24 := Nat.pow_le_pow_right (by decide) (by omega)
      rw [Int.tdiv_eq_ediv_of_nonneg (by omega)]
      unfold wrap64
      omega
    rw [show k + (j + 1) + 1 = (k + j + 1) + 1 by omega, vernierref04_Bits.l0, if_pos (by omega), hw, hq, ih (t / 2) (c + 1) (by clear h2; omega) ?_ (by omega) (by omega)]
    · rw [show c + 1 + j = c + (j + 1) by omega]
    · by_cases c0 : j = 0
      · exact .inl c0
      · refine .inr ?_
        have e : 2 ^ j = 2 * 2 ^ (j - 1) := by rw [← Nat.pow_succ']; exact congrArg (2 ^ ·) (by omega)
        omega
theorem bits_list {l : List Int} {N j : Nat} (h : Dg l N) (hj : Hi j N) (hl : l.length ≤ 45) (k : Nat) : vernierref04_Bits.f (k + 30) l = some ((j + 1 : Nat) : Int) := by
  have hN := hj.ne
  have hl0 : l.length ≠ 0 := fun h0 => hN (len_zero h h0)
  have hge := h.2.resolve_left hl0
  have hlt := h.1.1
  have e1 : 24 * l.length = 24 * (l.length - 1) + 24 := by omega
  have htop : dgt N (l.length - 1) = N / 2 ^ (24 * (l.length - 1)) := by
    refine Nat.mod_eq_of_lt ?_
    rw [Nat.div_lt_iff_lt_mul (pow24_pos _), ← Nat.pow_add, Nat.add_comm, ← e1]
    exact hlt
  have hjlo : 24 * (l.length - 1) ≤ j := by
    have : 24 * (l.length - 1) < j + 1 := (Nat.pow_lt_pow_iff_right (show 1 < 2 by decide)).1 (Nat.lt_of_le_of_lt hge hj.2)
    omega
  have hjhi : j < 24 * l.length := (Nat.pow_lt_pow_iff_right (show 1 < 2 by decide)).1 (Nat.lt_of_le_of_lt hj.1 hlt)
  obtain ⟨i, hi⟩ : ∃ i, j = 24 * (l.length - 1) + i := ⟨j - 24 * (l.length - 1), by omega⟩
  have t1 : 2 ^ i ≤ N / 2 ^ (24 * (l.length - 1)) := by
    rw [Nat.le_div_iff_mul_le (pow24_pos _), ← Nat.pow_add, show i + 24 * (l.length - 1) = j by omega]
    exact hj.1
  have t2 : N / 2 ^ (24 * (l.length - 1)) < 2 ^ (i + 1) := by
    rw [Nat.div_lt_iff_lt_mul (pow24_pos _), ← Nat.pow_add, show i + 1 + 24 * (l.length - 1) = j + 1 by omega]
    exact hj.2
  have hw : wrap64 ((l.length : Int) - 1) = ((l.length - 1 : Nat) : Int) := w_pred (by omega) (by omega)
  have hw2 : wrap64 (24 * ((l.length - 1 : Nat) : Int)) = ((24 * (l.length - 1) : Nat) : Int) := by unfold wrap64; omega
  unfold vernierref04_Bits.f
  rw [if_neg (by omega), hw, if_pos (by omega), if_pos (by omega), hw2, h.1.2 _ (by omega), htop]
  have := bits_l0 (k + 29 - (i + 1)) (i + 1) _ (24 * (l.length - 1)) t2 (.inr t1) (by omega) (by omega)
  rw [show k + 29 - (i + 1) + (i + 1) + 1 = k + 30 by omega, show 24 * (l.length - 1) + (i + 1) = j + 1 by omega] at this
  exact this
theorem bits_nil {l : List Int} (h : Dg l 0) (k : Nat) : vernierref04_Bits.f k l = some 0 := by
  unfold vernierref04_Bits.f
  rw [if_pos (by rw [dg_zero h]; rfl)]
theorem low_last {l : List Int} {N m i : Nat} (htwo24 : ∀ e : Nat, e < 24 → ∀ k : Nat, vernierref04_two.f (k + 25) (e : Int) = some ((2 ^ e : Nat) : Int)) (_ : Dw l N) (hd : rd l (i : Int) = (dgt N i : Int)) (h0 : N % 2 ^ (24 * i) = 0) (hlt : (i : Int) < (l.length : Int)) (hi0 : (0 : Int) ≤ (i : Int)) (hi5 : i ≤ 5000)
    (c2 : m - 24 * i < 24) (hnext : decide (wrap64 (24 * ((i + 1 : Nat) : Int)) < (m : Int)) = false) (hlt24 : ((m - 24 * i : Nat) : Int) < 24) (hm2 : m = 24 * i + (m - 24 * i)) (k d : Nat) :
    (if ((m - 24 * i : Nat) : Int) < 24 then ((vernierref04_two.f (k + 2 * d + 32) ((m - 24 * i : Nat) : Int)).bind fun t770 => (if 0 ≤ (i : Int) then (if (i : Int) < (l.length : Int) then (if t770 = 0 then (none) else (if (Int.tmod (rd l (i : Int)) t770) = 0 then (vernierref04_Low.l0 (k + 2 * d + 32) l (m : Int) (wrap64 ((i : Int) + 1))) else (some true))) else (none)) else (none))) else (if 0 ≤ (i : Int) then (if (i : Int) < (l.length : Int) then (if (Int.tmod (rd l (i : Int)) 16777216) = 0 then (vernierref04_Low.l0 (k + 2 * d + 32) l (m : Int) (wrap64 ((i : Int) + 1))) else (some true)) else (none)) else (none))) = some (decide (N % 2 ^ m ≠ 0)) := by
  have htwo : vernierref04_two.f (k + 2 * d + 32) ((m - 24 * i : Nat) : Int) = some ((2 ^ (m - 24 * i) : Nat) : Int) := htwo24 _ c2 (k + 2 * d + 7)
  have hmod : N % 2 ^ m = 2 ^ (24 * i) * (dgt N i % 2 ^ (m - 24 * i)) := by
    have e : 2 ^ m = 2 ^ (24 * i) * 2 ^ (m - 24 * i) := by rw [← Nat.pow_add]; exact congrArg (2 ^ ·) hm2
    rw [e, Nat.mod_mul, h0, Nat.zero_add]
    unfold dgt
    rw [Nat.mod_mod_of_dvd _ (Nat.pow_dvd_pow 2 (Nat.le_of_lt c2))]
  rw [if_pos hlt24, htwo, Option.bind_some, if_pos hi0, if_pos hlt, hd, hmod]
  clear hmod htwo htwo24 hm2 hlt24 hd h0
  have hp := Nat.one_le_two_pow (n := m - 24 * i)
  generalize 2 ^ (m - 24 * i) = T at *
  have hP := pow24_pos i
  generalize 2 ^ (24 * i) = P at *
  have htm : Int.tmod (dgt N i : Int) (T : Int) = ((dgt N i % T : Nat) : Int) := by
    rw [Int.tmod_eq_emod_of_nonneg (by omega)]
    rfl
  have hT : ¬ (T : Int) = 0 := by omega
  rw [if_neg hT, htm]
  by_cases c3 : dgt N i % T = 0
  · have hfin : ∀ k' : Nat, vernierref04_Low.j1 (k' + 1) l (m : Int) ((i + 1 : Nat) : Int) false = some (decide (0 ≠ 0)) := by
      intro k'
      rw [vernierref04_Low.j1, if_neg (by decide)]
      rfl
    rw [c3, Nat.mul_zero, if_pos (show ((0 : Nat) : Int) = 0 from rfl), w_succ hi5, show k + 2 * d + 32 = (k + 2 * d + 31) + 1 from rfl, vernierref04_Low.l0, hnext, show k + 2 * d + 31 = (k + 2 * d + 30) + 1 from rfl, hfin]
    split <;> rfl
  · have hz : P * (dgt N i % T) ≠ 0 := Nat.mul_ne_zero (Nat.pos_iff_ne_zero.1 hP) c3
    have hc : ¬ ((dgt N i % T : Nat) : Int) = 0 := fun h => c3 (Int.ofNat.inj h)
    rw [if_neg hc, decide_eq_true hz]
theorem low_l0 {l : List Int} {N m : Nat} (h : Dw l N) (hl : l.length ≤ 45) (hm : m ≤ 24 * l.length) (k : Nat) : ∀ (d i : Nat), i + d = l.length → N % 2 ^ (24 * i) = 0 →
    (24 * i < m ∨ N % 2 ^ m = 0) → vernierref04_Low.l0 (k + 2 * d + 32) l (m : Int) (i : Int) = some (decide (N % 2 ^ m ≠ 0)) := by
  intro d
  induction d with
  | zero =>
    intro i hi h0 hc
    have hz : N % 2 ^ m = 0 := hc.resolve_left (by omega)
    rw [show k + 2 * 0 + 32 = (k + 31) + 1 from rfl, vernierref04_Low.l0, if_neg (by omega), show k + 31 = (k + 30) + 1 from rfl, vernierref04_Low.j1, if_neg (by decide), hz]
    rfl
  | succ d ih =>
    intro i hi h0 hc
    have hw : wrap64 (24 * (i : Int)) = ((24 * i : Nat) : Int) := by unfold wrap64; omega
    have hlt : (i : Int) < (l.length : Int) := by omega
    have hi0 : (0 : Int) ≤ (i : Int) := by omega
    have hd := h.2 i (by omega)
    have htwo24 := fun (e : Nat) (he : e < 24) (k : Nat) => two_val he k
    have hms := mod_step N i
    rw [h0, Nat.zero_add] at hms
    rw [show k + 2 * (d + 1) + 32 = (k + 2 * d + 33) + 1 by omega, vernierref04_Low.l0, if_pos hlt, hw, show k + 2 * d + 33 = (k + 2 * d + 32) + 1 by omega, vernierref04_Low.j1]
    by_cases c : 24 * i < m
    · have hc1 : decide (((24 * i : Nat) : Int) < (m : Int)) = true := decide_eq_true (by omega)
      have hw2 : wrap64 ((m : Int) - ((24 * i : Nat) : Int)) = ((m - 24 * i : Nat) : Int) := by unfold wrap64; omega
      rw [hc1, if_pos rfl, hw, hw2]
      by_cases c2 : m - 24 * i < 24
      · have hi5 : i ≤ 5000 := by omega
        have hnext : decide (wrap64 (24 * ((i + 1 : Nat) : Int)) < (m : Int)) = false := by
          have : wrap64 (24 * ((i + 1 : Nat) : Int)) = ((24 * (i + 1) : Nat) : Int) := by unfold wrap64; omega
          rw [this]
          exact decide_eq_false (by omega)
        have hlt24 : ((m - 24 * i : Nat) : Int) < 24 := by omega
        have hm2 : m = 24 * i + (m - 24 * i) := by omega
        exact low_last htwo24 h hd h0 hlt hi0 hi5 c2 hnext hlt24 hm2 k d
      · have htm := w_mod (dgt N i)
        have hdl : dgt N i % 2 ^ 24 = dgt N i := Nat.mod_eq_of_lt (dgt_lt N i)
        rw [if_neg (by omega), if_pos hi0, if_pos hlt, hd, htm, hdl]
        by_cases c3 : dgt N i = 0
        · rw [c3, Nat.mul_zero] at hms
          rw [if_pos (by omega), w_succ (by omega)]
          refine ih (i + 1) (by omega) hms ?_
          by_cases c4 : 24 * (i + 1) < m
          · exact .inl c4
          · right
            have : m = 24 * (i + 1) := by omega
            rw [this]
            exact hms
        · rw [if_neg (by omega)]
          have hz : N % 2 ^ m ≠ 0 := by
            intro hz
            have e : N % 2 ^ (24 * (i + 1)) = 0 := by
              have := Nat.mod_mod_of_dvd N (Nat.pow_dvd_pow 2 (show 24 * (i + 1) ≤ m by omega))
              rw [hz, Nat.zero_mod] at this
              exact this.symm
            rw [e] at hms
            exact Nat.mul_ne_zero (Nat.pos_iff_ne_zero.1 (pow24_pos i)) c3 hms.symm
          rw [decide_eq_true hz]
    · have hc1 : decide (((24 * i : Nat) : Int) < (m : Int)) = false := decide_eq_false (by omega)
      have hz : N % 2 ^ m = 0 := hc.resolve_left c
      rw [hc1, if_neg (by decide), hz]
      rfl
theorem low_list {l : List Int} {N m : Nat} (h : Dw l N) (hl : l.length ≤ 45) (hm : m ≤ 24 * l.length) (k : Nat) : vernierref04_Low.f (k + 150) l (m : Int) = some (decide (N % 2 ^ m ≠ 0)) := by
  have := low_l0 h hl hm (k + 118 - 2 * l.length) l.length 0 (by omega) (by rw [Nat.mul_zero, Nat.pow_zero, Nat.mod_one]) (by
    by_cases c : 24 * 0 < m
    · exact .inl c
    · right
      obtain rfl : m = 0 := by omega
      rw [Nat.pow_zero, Nat.mod_one])
  rw [show k + 118 - 2 * l.length + 2 * l.length + 32 = k + 150 by omega] at this
  exact this
theorem word_list {l : List Int} {N : Nat} (h : Dw l N) (k : Nat) : vernierref04_Word.f (k + 4) l = some ((N % 2 ^ 64 : Nat) : Int) := by
  have d2 := digit_val h 2
  have d1 := digit_val h 1
  have d0 := digit_val h 0
  have w2 : wrap64 (2 - 1) = 1 := by unfold wrap64; omega
  have w1 : wrap64 (1 - 1) = 0 := by unfold wrap64; omega
  have w0 : wrap64 (0 - 1) = -1 := by unfold wrap64; omega
  have e2 : vernierref04_digit.f l 2 = some (dgt N 2 : Int) := d2
  have e1 : vernierref04_digit.f l 1 = some (dgt N 1 : Int) := d1
  have e0 : vernierref04_digit.f l 0 = some (dgt N 0 : Int) := d0
  unfold vernierref04_Word.f
  rw [show k + 4 = (k + 3) + 1 from rfl, vernierref04_Word.l0, if_pos (by decide), e2, Option.bind_some, w2, show k + 3 = (k + 2) + 1 from rfl, vernierref04_Word.l0, if_pos (by decide), e1, Option.bind_some, w1, show k + 2 = (k + 1) + 1 from rfl, vernierref04_Word.l0, if_pos (by decide), e0, Option.bind_some, w0, vernierref04_Word.l0, if_neg (by decide)]
  refine congrArg some ?_
  simp only [u64w]
  have l2 := dgt_lt N 2
  have l1 := dgt_lt N 1
  have l0 := dgt_lt N 0
  have hs : N % 2 ^ 64 = (dgt N 2 * 2 ^ 48 + dgt N 1 * 2 ^ 24 + dgt N 0) % 2 ^ 64 := by
    unfold dgt
    omega
  rw [hs]
  omega
end Go.Proofs.Ytnlbfomlfhigcaa.M
namespace Go.Proofs.Ytnlbfomlfhigcaa.M
open Go.RowKit Go.Proofs.YtnlbfomlfhigcaaW.PrintWords Go.Proofs.YtnlbfomlfhigcaaW.PrintLast Go.Proofs.YtnlbfomlfhigcaaW.PrintMore Go.Proofs.Ytnlbfomlfhigcaa.Q
theorem down_aux {L H R S : Nat} (hR : 1 ≤ R) (hS : 1 ≤ S) (hL : L < R * S) : (L + R * S * H) / R % (R * S) = L / R + H % (R * S) % R * S := by
  have h1 : L / R < S := by
    rw [Nat.div_lt_iff_lt_mul hR, Nat.mul_comm]
    exact hL
  rw [Nat.mul_assoc, Nat.add_mul_div_left _ _ hR, Nat.mod_mul_right_mod, Nat.mul_comm R S, Nat.mod_mul, Nat.add_mul_mod_self_left, Nat.mod_eq_of_lt h1, Nat.add_mul_div_left _ _ hS, Nat.div_eq_of_lt h1, Nat.zero_add, Nat.mul_comm (H % R)]
theorem dgt_down {X r i : Nat} (hr : r < 24) : dgt (X / 2 ^ r) i = dgt X i / 2 ^ r + dgt X (i + 1) % 2 ^ r * 2 ^ (24 - r) := by
  unfold dgt
  have e0 : X / 2 ^ r / 2 ^ (24 * i) = X / 2 ^ (24 * i) / 2 ^ r := by rw [Nat.div_div_eq_div_mul, Nat.div_div_eq_div_mul, Nat.mul_comm]
  have e1 : X / 2 ^ (24 * (i + 1)) = X / 2 ^ (24 * i) / 2 ^ 24 := by rw [pow24, Nat.div_div_eq_div_mul]
  rw [e0, e1]
  generalize X / 2 ^ (24 * i) = Y
  have hp : (2 : Nat) ^ 24 = 2 ^ r * 2 ^ (24 - r) := by rw [← Nat.pow_add]; exact congrArg (2 ^ ·) (by omega)
  have hY : Y = Y % 2 ^ 24 + 2 ^ 24 * (Y / 2 ^ 24) := by
    have := Nat.div_add_mod Y (2 ^ 24)
    omega
  have h := down_aux (L := Y % 2 ^ 24) (H := Y / 2 ^ 24) (pow_pos r) (pow_pos (24 - r)) (by rw [← hp]; exact Nat.mod_lt _ (by decide))
  rw [← hp, ← hY] at h
  exact h
theorem rd_set {l : List Int} {v : Int} {i j : Nat} (hi : i < l.length) : rd (l.set i v) (j : Int) = if j = i then v else rd l (j : Int) := by
  rw [rd_nat, rd_nat, List.getD_eq_getElem?_getD, List.getD_eq_getElem?_getD, List.getElem?_set]
  by_cases c : i = j
  · subst c
    rw [if_pos rfl, if_pos hi, if_pos rfl]
    rfl
  · rw [if_neg c, if_neg (fun h => c h.symm)]
theorem w_small {g : Nat} (h : g ≤ 2 ^ 50) : wrap64 (g : Int) = (g : Int) := by
  unfold wrap64
  omega
theorem tdiv_nat (x f : Nat) : Int.tdiv (x : Int) (f : Int) = ((x / f : Nat) : Int) := by
  rw [Int.tdiv_eq_ediv_of_nonneg (Int.natCast_nonneg x)]
  rfl
theorem tmod_nat (x f : Nat) : Int.tmod (x : Int) (f : Int) = ((x % f : Nat) : Int) := by
  rw [Int.tmod_eq_emod_of_nonneg (Int.natCast_nonneg x)]
  rfl
theorem w_shr {x y f g : Nat} (hx : x < 2 ^ 24) (hy : y < 2 ^ 24) (hg : g ≤ 2 ^ 24) :
    wrap64 (wrap64 (Int.tdiv (x : Int) (f : Int)) + wrap64 (Int.tmod (y : Int) (f : Int) * wrap64 (g : Int))) = ((x / f + y % f * g : Nat) : Int) := by
  have h1 : x / f ≤ x := Nat.div_le_self _ _
  have h2 : y % f ≤ y := Nat.mod_le _ _
  have h3 : y % f * g ≤ 2 ^ 24 * 2 ^ 24 := Nat.mul_le_mul (by omega) hg
  have h4 : x / f ≤ 2 ^ 50 := by omega
  have h5 : y % f * g ≤ 2 ^ 50 := Nat.le_trans h3 (by decide)
  have h6 : x / f + y % f * g ≤ 2 ^ 50 := by
    have : (2 : Nat) ^ 24 * 2 ^ 24 + 2 ^ 24 ≤ 2 ^ 50 := by decide
    omega
  rw [tdiv_nat, tmod_nat, w_small (Nat.le_trans hg (by decide)), ← Int.natCast_mul, w_small h4, w_small h5, ← Int.natCast_add, w_small h6]
theorem shr_l0 {l : List Int} {X r : Nat} (h : Dw l X) (hl : l.length ≤ 45) (hr : r < 24) (k : Nat) : ∀ (d i : Nat) (out : List Int), i + d = l.length → out.length = l.length → (∀ j, j < i → rd out (j : Int) = (dgt (X / 2 ^ r) j : Int)) →
    ∃ res, vernierref04_Shr.l0 (k + d + 51) l ((2 ^ r : Nat) : Int) out (i : Int) = some res ∧ Dg res (X / 2 ^ r) ∧ res.length ≤ l.length := by
  have hpr := pow_pos r
  intro d
  induction d with
  | zero =>
    intro i out hi hout hD
    have hDw : Dw out (X / 2 ^ r) := by
      refine ⟨Nat.lt_of_le_of_lt (Nat.div_le_self _ _) (by rw [hout]; exact h.1), fun j hj => hD j (by omega)⟩
    obtain ⟨res, h1, h2, h3⟩ := cut_list hDw (by omega) k
    refine ⟨res, ?_, h2, by omega⟩
    rw [show k + 0 + 51 = (k + 50) + 1 from rfl, vernierref04_Shr.l0, if_neg (by omega), h1]
    rfl
  | succ d ih =>
    intro i out hi hout hD
    have hil : (i : Int) < (l.length : Int) := by omega
    have hi0 : (0 : Int) ≤ (i : Int) := by omega
    have hio : (i : Int) < (out.length : Int) := by omega
    have hi5 : i ≤ 5000 := by omega
    have hf0 : ¬ ((2 ^ r : Nat) : Int) = 0 := by omega
    have hd1 := h.2 i (by omega)
    have hd2 := digit_val h (i + 1)
    have hg : (16777216 : Int) / ((2 ^ r : Nat) : Int) = ((2 ^ (24 - r) : Nat) : Int) := by
      have : (2 : Nat) ^ 24 / 2 ^ r = 2 ^ (24 - r) := Nat.pow_div (by omega) (by decide)
      rw [← this]
      rfl
    have hg2 : 2 ^ (24 - r) ≤ 2 ^ 24 := Nat.pow_le_pow_right (by decide) (by omega)
    rw [show k + (d + 1) + 51 = (k + d + 51) + 1 by omega, vernierref04_Shr.l0, if_pos hil, if_pos hi0, if_neg hf0, w_succ hi5, hd2, Option.bind_some, if_pos hio, hd1, hg, w_shr (dgt_lt X i) (dgt_lt X (i + 1)) hg2, ← dgt_down hr, Int.toNat_natCast]
    refine ih (i + 1) _ (by omega) (by rw [List.length_set]; exact hout) (fun j hj => ?_)
    rw [rd_set (by omega)]
    by_cases c : j = i
    · rw [if_pos c, c]
    · rw [if_neg c]
      exact hD j (by omega)
theorem dw_drop {l : List Int} {N q : Nat} (h : Dw l N) (hq : q ≤ l.length) : Dw (l.drop q) (N / 2 ^ (24 * q)) := by
  have e : (l.drop q).length = l.length - q := List.length_drop
  refine ⟨?_, fun i hi => ?_⟩
  · rw [e, Nat.div_lt_iff_lt_mul (pow24_pos q), ← Nat.pow_add, show 24 * (l.length - q) + 24 * q = 24 * l.length by omega]
    exact h.1
  · rw [e] at hi
    have := h.2 (q + i) (by omega)
    rw [rd_nat] at this ⊢
    rw [List.getD_eq_getElem?_getD, List.getElem?_drop, ← List.getD_eq_getElem?_getD, this]
    unfold dgt
    rw [Nat.div_div_eq_div_mul, ← Nat.pow_add, show 24 * q + 24 * i = 24 * (q + i) by omega]
theorem shr_list {l : List Int} {N m : Nat} (h : Dw l N) (hl : l.length ≤ 45) (hm : m ≤ 5000) (k : Nat) : ∃ r, vernierref04_Shr.f (k + 150) l (m : Int) = some r ∧ Dg r (N / 2 ^ m) ∧ r.length ≤ l.length := by
  have hq : wrap64 (Int.tdiv (m : Int) 24) = ((m / 24 : Nat) : Int) := by
    rw [Int.tdiv_eq_ediv_of_nonneg (by omega)]
    unfold wrap64
    omega
  have hmd : Int.tmod (m : Int) 24 = ((m % 24 : Nat) : Int) := by
    rw [Int.tmod_eq_emod_of_nonneg (by omega)]
    omega
  unfold vernierref04_Shr.f
  rw [hq, hmd]
  by_cases c : l.length ≤ m / 24
  · rw [if_pos (by omega)]
    have : N / 2 ^ m = 0 := Nat.div_eq_of_lt (Nat.lt_of_lt_of_le h.1 (Nat.pow_le_pow_right (by decide) (by omega)))
    rw [this]
    exact ⟨[], rfl, dg_nil, by simp⟩
  · have hr : m % 24 < 24 := Nat.mod_lt _ (by decide)
    have hdw := dw_drop h (show m / 24 ≤ l.length by omega)
    have hlen : (l.drop (m / 24)).length = l.length - m / 24 := List.length_drop
    have htwo : vernierref04_two.f (k + 150) ((m % 24 : Nat) : Int) = some ((2 ^ (m % 24) : Nat) : Int) := two_val hr (k + 125)
    rw [if_neg (by omega), if_pos (by omega), if_pos (by omega), htwo, Option.bind_some, Int.toNat_natCast, if_pos (by omega), Int.toNat_natCast, if_pos (by omega)]
    obtain ⟨r, h1, h2, h3⟩ := shr_l0 hdw (by omega) hr (k + 99 - (l.drop (m / 24)).length) (l.drop (m / 24)).length 0 (List.replicate (l.drop (m / 24)).length 0) (by omega) (by simp) (fun j hj => absurd hj (Nat.not_lt_zero _))
    rw [show k + 99 - (l.drop (m / 24)).length + (l.drop (m / 24)).length + 51 = k + 150 by omega] at h1
    refine ⟨r, h1, ?_, by omega⟩
    have e : N / 2 ^ m = N / 2 ^ (24 * (m / 24)) / 2 ^ (m % 24) := by
      rw [Nat.div_div_eq_div_mul, ← Nat.pow_add]
      exact congrArg (N / 2 ^ ·) (by omega)
    rw [e]
    exact h2
theorem rheld_val (s : Int) : vernierref07_Held.f s = some (hld s) := by
  unfold vernierref07_Held.f hld mx mn
  by_cases c1 : s < -1099511627776
  · rw [if_pos c1]
    refine congrArg some ?_
    split <;> split <;> omega
  · rw [if_neg c1]
    by_cases c2 : s > 1099511627776
    · rw [if_pos c2]
      refine congrArg some ?_
      split <;> split <;> omega
    · rw [if_neg c2]
      refine congrArg some ?_
      split <;> split <;> omega
theorem words_list {l : List Int} {F : Nat} (h : Dg l F) (hl : l.length ≤ 45) (hF : F < 2 ^ 128) (k : Nat) :
    vernierref04_Word.f (k + 150) l = some ((F % 2 ^ 64 : Nat) : Int) ∧ ∃ r, vernierref04_Shr.f (k + 150) l 64 = some r ∧ vernierref04_Word.f (k + 150) r = some ((F / 2 ^ 64 : Nat) : Int) := by
  obtain ⟨r, h1, h2, h3⟩ := shr_list (m := 64) h.1 hl (by decide) k
  refine ⟨word_list h.1 (k + 146), r, h1, ?_⟩
  have := word_list h2.1 (k + 146)
  rw [Nat.mod_eq_of_lt (show F / 2 ^ 64 < 2 ^ 64 by omega)] at this
  exact this
theorem exactly_val {l : List Int} {Z exp : Int} (h : Dg l Z.natAbs) (hl : l.length ≤ 42) (e1 : -4000000000000 ≤ exp) (e2 : exp ≤ 4000000000000) {neg : Bool} (hneg : Z ≠ 0 → neg = decide (Z < 0)) (k : Nat) :
    Sout exp Z (vernierref07_Exactly.f (k + 160) neg l exp false) := by
  by_cases hz : Z = 0
  · subst hz
    refine .inl ⟨rfl, ?_⟩
    unfold vernierref07_Exactly.f
    rw [bits_nil h, Option.bind_some, if_pos rfl]
  · have hN : Z.natAbs ≠ 0 := by omega
    obtain ⟨j, hj⟩ := Hi.ex hN
    have hb := tF_bd hj
    have hjl : j < 24 * l.length := (Nat.pow_lt_pow_iff_right (show 1 < 2 by decide)).1 (Nat.lt_of_le_of_lt hj.1 h.1.1)
    have hbits : vernierref04_Bits.f (k + 160) l = some ((j + 1 : Nat) : Int) := bits_list h hj (by omega) (k + 130)
    have hw : wrap64 (wrap64 (exp + ((j + 1 : Nat) : Int)) - 1) = exp + (j : Int) := by unfold wrap64; omega
    refine .inr ⟨j, hj, ?_⟩
    rw [← hneg hz]
    unfold vernierref07_Exactly.f
    rw [hbits, Option.bind_some, if_neg (by omega), hw, rheld_val, Option.bind_some]
    by_cases c : j + 1 < 128
    · have hw2 : wrap64 (128 - ((j + 1 : Nat) : Int)) = ((127 - j : Nat) : Int) := by unfold wrap64; omega
      have hl6 : l.length ≤ 6 := by
        rcases h.2 with h0 | h0
        · omega
        · refine Nat.le_of_not_lt fun hgt => ?_
          have h1 : 2 ^ (24 * 6) ≤ 2 ^ (24 * (l.length - 1)) := Nat.pow_le_pow_right (by decide) (by omega)
          have h2 : 2 ^ (j + 1) ≤ 2 ^ (24 * 6) := Nat.pow_le_pow_right (by decide) (by omega)
          have h3 := hj.2
          omega
      obtain ⟨r, s1, s2, s3⟩ := shl_list (n := 127 - j) h (by omega) (by omega) (k + 110)
      have hF : tF j Z.natAbs = Z.natAbs * 2 ^ (127 - j) := by
        unfold tF
        rw [show (2 : Nat) ^ 127 = 2 ^ (127 - j) * 2 ^ j by rw [← Nat.pow_add]; exact congrArg (2 ^ ·) (by omega), ← Nat.mul_assoc, Nat.mul_div_cancel _ (pow_pos j)]
      have hB : tB j Z.natAbs = false := by
        unfold tB
        refine decide_eq_false ?_
        rw [show (2 : Nat) ^ 127 = 2 ^ (127 - j) * 2 ^ j by rw [← Nat.pow_add]; exact congrArg (2 ^ ·) (by omega), ← Nat.mul_assoc, Nat.mul_mod_left]
        simp
      rw [← hF] at s2
      obtain ⟨w1, r2, w2, w3⟩ := words_list s2 (by omega) hb.2 (k + 9)
      have s1' : vernierref04_Shl.f (k + 160) l ((127 - j : Nat) : Int) = some r := s1
      rw [if_pos (by omega), hw2, s1', Option.bind_some, show k + 160 = (k + 9 + 150) + 1 by omega, vernierref07_Exactly.j0, if_neg (by omega), w1, Option.bind_some, w2, Option.bind_some, w3, Option.bind_some, hB]
    · rw [if_neg (by omega), show k + 160 = (k + 9 + 150) + 1 by omega, vernierref07_Exactly.j0]
      by_cases c2 : 128 < j + 1
      · have hw3 : wrap64 (((j + 1 : Nat) : Int) - 128) = ((j - 127 : Nat) : Int) := by unfold wrap64; omega
        have hlow := low_list h.1 (by omega) (show j - 127 ≤ 24 * l.length by omega) (k + 9)
        obtain ⟨r, s1, s2, s3⟩ := shr_list (m := j - 127) h.1 (by omega) (by omega) (k + 8)
        have hpj : (2 : Nat) ^ j = 2 ^ 127 * 2 ^ (j - 127) := by rw [← Nat.pow_add]; exact congrArg (2 ^ ·) (by omega)
        have hF : tF j Z.natAbs = Z.natAbs / 2 ^ (j - 127) := by
          unfold tF
          rw [hpj, Nat.mul_comm Z.natAbs, Nat.mul_div_mul_left _ _ (pow_pos 127)]
        have hB : tB j Z.natAbs = decide (Z.natAbs % 2 ^ (j - 127) ≠ 0) := by
          unfold tB
          rw [hpj, Nat.mul_comm Z.natAbs, Nat.mul_mod_mul_left]
          have hp := pow_pos 127
          refine decide_eq_decide.mpr ⟨fun h' h0 => h' (by rw [h0, Nat.mul_zero]), fun h' => Nat.mul_ne_zero (by omega) h'⟩
        rw [← hF] at s2
        obtain ⟨w1, r2, w2, w3⟩ := words_list s2 (by omega) hb.2 (k + 8)
        rw [if_pos (by omega), hw3, hlow, Option.bind_some, if_neg (by decide), show k + 9 + 150 = (k + 8 + 150) + 1 by omega, vernierref07_Exactly.j1, hw3, s1, Option.bind_some, w1, Option.bind_some, w2, Option.bind_some, w3, Option.bind_some, hB]
      · obtain rfl : j = 127 := by omega
        have hF : tF 127 Z.natAbs = Z.natAbs := Nat.mul_div_cancel _ (pow_pos 127)
        have hB : tB 127 Z.natAbs = false := decide_eq_false (by rw [Nat.mul_mod_left]; simp)
        rw [hF] at hb ⊢
        obtain ⟨w1, r2, w2, w3⟩ := words_list h (by omega) hb.2 (k + 9)
        rw [if_neg (by decide), w1, Option.bind_some, w2, Option.bind_some, w3, Option.bind_some, hB]
end Go.Proofs.Ytnlbfomlfhigcaa.M
