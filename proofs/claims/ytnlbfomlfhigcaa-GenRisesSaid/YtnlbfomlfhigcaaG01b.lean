/- Walks and plain laws that the claim stands on: each theorem named calls says that a call of a function returns what its f computes; the others are plain laws of these f. -/
import Derived.Test.YtnlbfomlfhigcaaG01a
import Derived.Test.YtnlbfomlfhigcaaG01234a
namespace Go.Proofs.Ytnlbfomlfhigcaa.M
open Go.RowKit Go.Proofs.YtnlbfomlfhigcaaW.PrintWords Go.Proofs.YtnlbfomlfhigcaaW.PrintLast Go.Proofs.YtnlbfomlfhigcaaW.PrintMore Go.Proofs.Ytnlbfomlfhigcaa.Q

/-- No width. -/
def NoW (n : Int) : Prop := ¬ (n = 8 ∨ n = 16 ∨ n = 32 ∨ n = 64)
theorem wd_or (n : Int) : (∃ m : Nat, n = (m : Int) ∧ Wd m) ∨ NoW n := by
  unfold NoW Wd
  by_cases h : n = 8 ∨ n = 16 ∨ n = 32 ∨ n = 64
  · left; exact ⟨n.toNat, by omega, by omega⟩
  · right; exact h
theorem of_real (k : Nat) (neg : Bool) {s : Int} {f : Nat} (h1 : 2 ^ 63 ≤ f) (h2 : f < 2 ^ 64) (h3 : -1073741824 ≤ s) (h4 : s ≤ 1073741824) : round_Of.f (k + 1) 1 neg s (f : Int) = some (1, neg, s, (f : Int), 0, false, none) := by
  unfold round_Of.f
  have h := sound_real (l := 0) k neg false (s := s) h1 h2 (by omega) (by omega)
  have h' : round_sound.f (k + 1) 1 neg s (f : Int) 0 false = some true := h
  rw [h']
  simp only [Option.bind_some, if_true]
  rw [if_neg (by omega), if_neg (by omega)]
theorem of_zero (k : Nat) : round_Of.f (k + 1) 0 false 0 0 = some (0, false, 0, 0, 0, false, none) := by
  unfold round_Of.f
  rw [sound_zero]
  rfl
theorem of_nar (k : Nat) : round_Of.f (k + 1) 2 false 0 0 = some (2, false, 0, 0, 0, false, none) := by
  unfold round_Of.f
  rw [sound_nar]
  rfl
theorem convert_no (k : Nat) {n m : Int} (h : NoW n ∨ NoW m) (p : Int) : gen_Convert.f k n m p = some (0, some 2) := by
  unfold gen_Convert.f
  rcases wd_or m with ⟨m, rfl, hm⟩ | hm
  · rw [of_yes hm]
    simp only [Option.bind_some, Option.isNone_none, if_true]
    rw [decode_no (h.resolve_right (fun h2 => h2 (by unfold Wd at hm; omega)))]
    rfl
  · rw [of_no hm]
    rfl
/-- What a folded pattern of the width n is in the width m. -/
theorem convert_yes {n m p : Nat} (hn : Wd n) (hm : Wd m) (hp : p < 2 ^ 64) : ∃ q : Nat, (∀ k, gen_Convert.f (k + 80) (n : Int) (m : Int) (p : Int) = some ((q : Int), none)) ∧
    ((p % 2 ^ n = 0 ∧ q = 0) ∨ (p % 2 ^ n = 2 ^ (n - 1) ∧ q = 2 ^ (m - 1)) ∨ (knd n (p % 2 ^ n) = 1 ∧ ∃ s f, Dec n (mag n (p % 2 ^ n)) s f ∧ q = sg m (sgn n (p % 2 ^ n)) (rpos m s (f * 2 ^ 64) false))) := by
  rcases knd_cases n (p % 2 ^ n) with ⟨h0, h1⟩ | h1 | ⟨h0, h1⟩
  · refine ⟨0, fun k => ?_, .inl ⟨h1, rfl⟩⟩
    unfold gen_Convert.f
    rw [of_yes hm, decode_zero hn hp h0]
    simp only [Option.bind_some, Option.isNone_none, if_true]
    rw [of_zero (k + 79)]
    simp only [Option.bind_some]
    rw [round_zero hm (k + 79)]
    rfl
  · obtain ⟨s, f, hd, hf⟩ := decode_real hn hp h1
    refine ⟨_, fun k => ?_, .inr (.inr ⟨h1, s, f, hd, rfl⟩)⟩
    have hb := hn.bd
    obtain ⟨g1, g2, g3, g4, _⟩ := hd
    unfold gen_Convert.f
    rw [of_yes hm, hf (k + 72)]
    simp only [Option.bind_some, Option.isNone_none, if_true]
    rw [of_real (k + 79) _ g1 g2 (by omega) (by omega)]
    simp only [Option.bind_some]
    have hr := round_real hm (sgn n (p % 2 ^ n)) false (s := s) (l := 0) g1 g2 (by decide) (by omega) (by omega) k
    rw [Nat.add_zero (f * 2 ^ 64)] at hr
    have hr' : round_Round.f (k + 80) (m : Int) 1 (sgn n (p % 2 ^ n)) s (f : Int) 0 false = _ := hr
    rw [hr', Option.bind_some]
  · refine ⟨_, fun k => ?_, .inr (.inl ⟨h1, rfl⟩)⟩
    unfold gen_Convert.f
    rw [of_yes hm, decode_nar hn hp h0]
    simp only [Option.bind_some, Option.isNone_none, if_true]
    rw [of_nar (k + 79)]
    simp only [Option.bind_some]
    rw [round_nar hm (k + 79)]
    rfl
theorem sg_lt {n : Nat} (hn : Wd n) (neg : Bool) {p : Nat} (h1 : 1 ≤ p) (h2 : p < 2 ^ (n - 1)) : sg n neg p < 2 ^ n := by
  have := two_half hn
  unfold sg
  split <;> omega
theorem sg_parts {n : Nat} (hn : Wd n) (neg : Bool) {p : Nat} (h1 : 1 ≤ p) (h2 : p < 2 ^ (n - 1)) : knd n (sg n neg p) = 1 ∧ sgn n (sg n neg p) = neg ∧ mag n (sg n neg p) = p := by
  have e := two_half hn
  unfold sg
  cases neg with
  | true =>
    rw [if_pos rfl]
    refine ⟨?_, ?_, ?_⟩
    · unfold knd; rw [if_neg (by omega), if_neg (by omega)]
    · unfold sgn; simp only [decide_eq_true_eq]; omega
    · unfold mag; rw [if_pos (by omega)]; omega
  | false =>
    rw [if_neg (by decide)]
    refine ⟨?_, ?_, ?_⟩
    · unfold knd; rw [if_neg (by omega), if_neg (by omega)]
    · unfold sgn; simp only [decide_eq_false_iff_not]; omega
    · unfold mag; rw [if_neg (by omega)]
theorem sg_mag {n y : Nat} (hy : y < 2 ^ n) : sg n (sgn n y) (mag n y) = y := by
  unfold sg sgn mag
  by_cases c : 2 ^ (n - 1) ≤ y
  · rw [if_pos c, decide_eq_true c, if_pos rfl]; omega
  · rw [if_neg c, decide_eq_false c, if_neg (by decide)]
theorem sg_mul {n j : Nat} (neg : Bool) {p : Nat} : sg n neg p * 2 ^ j = sg (n + j) neg (p * 2 ^ j) := by
  unfold sg
  split
  · rw [Nat.sub_mul, Nat.pow_add]
  · rfl
/-- Widening: noughts behind the pattern. -/
theorem convert_widen {n m p : Nat} (hn : Wd n) (hm : Wd m) (hnm : n ≤ m) (hp : p < 2 ^ 64) (k : Nat) :
    gen_Convert.f (k + 80) (n : Int) (m : Int) (p : Int) = some (((p % 2 ^ n * 2 ^ (m - n) : Nat) : Int), none) := by
  obtain ⟨q, hq, h⟩ := convert_yes hn hm hp
  rw [hq k]
  congr 3
  have hy : p % 2 ^ n < 2 ^ n := Nat.mod_lt _ (pow_pos _)
  rcases h with ⟨h1, h2⟩ | ⟨h1, h2⟩ | ⟨h1, s, f, hd, h2⟩
  · rw [h1, h2, Nat.zero_mul]
  · rw [h1, h2, ← Nat.pow_add]
    have := hn.bd
    exact congrArg (2 ^ ·) (by omega)
  · have hmb := mag_bd hn hy h1
    rw [h2, (hd.widen hn hm hnm hmb.2).1]
    have := sg_mul (n := n) (j := m - n) (sgn n (p % 2 ^ n)) (p := mag n (p % 2 ^ n))
    rw [sg_mag hy, show n + (m - n) = m by omega] at this
    exact this.symm
/-- And back. -/
theorem convert_back {n m p : Nat} (hn : Wd n) (hm : Wd m) (hnm : n ≤ m) (k : Nat) :
    gen_Convert.f (k + 80) (m : Int) (n : Int) ((p % 2 ^ n * 2 ^ (m - n) : Nat) : Int) = some (((p % 2 ^ n : Nat) : Int), none) := by
  have hb := hn.bd
  have hb' := hm.bd
  have hy : p % 2 ^ n < 2 ^ n := Nat.mod_lt _ (pow_pos _)
  generalize p % 2 ^ n = y at *
  have hM : 2 ^ n * 2 ^ (m - n) = 2 ^ m := by rw [← Nat.pow_add]; exact congrArg (2 ^ ·) (by omega)
  have hq : y * 2 ^ (m - n) < 2 ^ m := by rw [← hM]; exact Nat.mul_lt_mul_of_pos_right hy (pow_pos _)
  have hq64 : y * 2 ^ (m - n) < 2 ^ 64 := Nat.lt_of_lt_of_le hq (pow_le hb'.2)
  have hqm : y * 2 ^ (m - n) % 2 ^ m = y * 2 ^ (m - n) := Nat.mod_eq_of_lt hq
  have hy64 : y < 2 ^ 64 := Nat.lt_of_lt_of_le hy (pow_le hb.2)
  have hym : y % 2 ^ n = y := Nat.mod_eq_of_lt hy
  obtain ⟨q, hc, h⟩ := convert_yes hm hn hq64
  rw [hc k]
  congr 3
  rw [hqm] at h
  have hp1 := pow_pos (m - n)
  have hhalf : 2 ^ (n - 1) * 2 ^ (m - n) = 2 ^ (m - 1) := by rw [← Nat.pow_add]; exact congrArg (2 ^ ·) (by omega)
  rcases h with ⟨h1, h2⟩ | ⟨h1, h2⟩ | ⟨h1, s, f, hd, h2⟩
  · rw [h2]
    rcases Nat.mul_eq_zero.mp h1 with h3 | h3 <;> omega
  · rw [h2]
    rw [← hhalf] at h1
    exact (Nat.eq_of_mul_eq_mul_right hp1 h1).symm
  · have hk : knd n y = 1 := by
      rcases knd_cases n y with ⟨_, h3⟩ | h3 | ⟨_, h3⟩
      · subst h3; rw [Nat.zero_mul] at h1; unfold knd at h1; simp at h1
      · exact h3
      · subst h3; rw [hhalf] at h1; unfold knd at h1; rw [if_neg (by have := pow_pos (m - 1); omega), if_pos rfl] at h1; omega
    have hmb := mag_bd hn hy hk
    obtain ⟨s', f', hd', _⟩ := decode_real hn hy64 (by rw [hym]; exact hk)
    rw [hym] at hd'
    have hw := hd'.widen hn hm hnm hmb.2
    have hyy := sg_mag hy
    have hmag : mag n y * 2 ^ (m - n) < 2 ^ (m - 1) := by rw [← hhalf]; exact Nat.mul_lt_mul_of_pos_right hmb.2 hp1
    have hmag1 : 1 ≤ mag n y * 2 ^ (m - n) := Nat.mul_pos hmb.1 hp1
    have hsp := sg_parts hm (sgn n y) hmag1 hmag
    have hsm := sg_mul (n := n) (j := m - n) (sgn n y) (p := mag n y)
    rw [hyy, show n + (m - n) = m by omega] at hsm
    rw [← hsm] at hsp
    rw [hsp.2.2] at hd
    rw [hsp.2.1] at h2
    obtain ⟨rfl, rfl⟩ := hd.uniq hm hw.2
    rw [h2, hd'.back hn hmb.2, hyy]
/-- The signed number of a text of bits. -/
theorem ext_l0 {b : ByteArray} {n v : Nat} (h : IsBits b n v) (hn : n ≤ 64) (t : Nat) (ht : t = v / 2 ^ (n - 1)) (ht1 : 1 ≤ n) (k : Nat) : ∀ d i : Nat, i + d = n → 1 ≤ i →
    vernierref01_Extend.l0 (k + d + 1) (n : Int) b (((v / 2 ^ d : Nat) : Int) - ((t * 2 ^ i : Nat) : Int)) (i : Int) = some ((v : Int) - ((t * 2 ^ n : Nat) : Int), 0) := by
  obtain ⟨h1, h2, h3⟩ := h
  have ht2 : t ≤ 1 := by
    have : v / 2 ^ (n - 1) < 2 := by
      rw [Nat.div_lt_iff_lt_mul (pow_pos _)]
      have e : 2 ^ n = 2 * 2 ^ (n - 1) := by rw [← Nat.pow_succ']; exact congrArg (2 ^ ·) (by omega)
      omega
    omega
  intro d
  induction d with
  | zero =>
    intro i hi _
    rw [vernierref01_Extend.l0, if_neg (by omega), Nat.pow_zero, Nat.div_one, show i = n by omega]
  | succ d ih =>
    intro i hi hi1
    rw [show k + (d + 1) + 1 = (k + d + 1) + 1 by omega, vernierref01_Extend.l0, if_pos (by omega), if_pos (by omega), if_pos (by omega), h3 i (by omega)]
    have hw : wrap64 ((i : Int) + 1) = ((i + 1 : Nat) : Int) := by unfold wrap64; omega
    have hz : v / 2 ^ (d + 1) = v / 2 ^ d / 2 := by rw [Nat.pow_succ, ← Nat.div_div_eq_div_mul]
    have hzb : v / 2 ^ d < 2 ^ (i + 1) := by
      rw [Nat.div_lt_iff_lt_mul (pow_pos _), ← Nat.pow_add, show i + 1 + d = n by omega]
      exact h2
    have hi2 : 2 ^ i ≤ 2 ^ 63 := pow_le (by omega)
    have htop : t = 1 → 2 ^ i ≤ v / 2 ^ d := by
      intro e
      rw [e] at ht
      have : v / 2 ^ (n - 1) = v / 2 ^ d / 2 ^ i := by rw [Nat.div_div_eq_div_mul, ← Nat.pow_add]; exact congrArg (fun z => v / 2 ^ z) (by omega)
      rw [this] at ht
      have := (Nat.le_div_iff_mul_le (pow_pos i)).1 (show 1 ≤ v / 2 ^ d / 2 ^ i by omega)
      omega
    have htop0 : t = 0 → v / 2 ^ d < 2 ^ i := by
      intro e
      rw [e] at ht
      have : v / 2 ^ (n - 1) = v / 2 ^ d / 2 ^ i := by rw [Nat.div_div_eq_div_mul, ← Nat.pow_add]; exact congrArg (fun z => v / 2 ^ z) (by omega)
      rw [this] at ht
      exact Nat.lt_of_div_eq_zero (pow_pos i) ht.symm
    have e : wrap64 (wrap64 (2 * (((v / 2 ^ (d + 1) : Nat) : Int) - ((t * 2 ^ i : Nat) : Int))) + (((bitc n v i : Nat) : Int) - 48) % 256) = ((v / 2 ^ d : Nat) : Int) - ((t * 2 ^ (i + 1) : Nat) : Int) := by
      unfold bitc
      rw [show n - 1 - i = d by omega, hz]
      rw [Nat.pow_succ] at hzb ⊢
      clear hz h2 h3 ih ht
      generalize v / 2 ^ d = z at *
      rw [p63] at hi2
      generalize 2 ^ i = q at *
      unfold wrap64
      have : t = 0 ∨ t = 1 := by omega
      rcases this with rfl | rfl
      · have := htop0 rfl
        omega
      · have := htop rfl
        omega
    rw [e, hw]
    exact ih (i + 1) (by omega) (by omega)
theorem rrank_yes {n : Nat} (h : Wd n) (x : Nat) (k : Nat) : vernierref05_Rank.f (k + 70) (n : Int) (x : Int) = some (rk n (x % 2 ^ n), 0) := by
  have hb := h.bd
  have e2 := two_half h
  unfold vernierref05_Rank.f
  rw [isw_yes h]
  simp only [Option.bind_some, if_true]
  unfold vernierref01_Extend.f
  rw [if_neg (by omega), show decide ((n : Int) > 64) = false by simp; omega, show k + 70 = (k + 69) + 1 from rfl, vernierref01_Extend.j0, if_neg (by decide)]
  obtain ⟨b, h1, h2⟩ := text_bits x hb.2 (k + 3)
  rw [h1]
  simp only [Option.bind_some]
  have hs := h2.1
  have h0 := h2.2.2 0 (by omega)
  have hv := h2.2.1
  rw [if_pos (by omega)]
  have h0' : bt b 0 = ((bitc n (x % 2 ^ n) 0 : Nat) : Int) := h0
  rw [h0']
  have ht : x % 2 ^ n / 2 ^ (n - 1) < 2 := by
    rw [Nat.div_lt_iff_lt_mul (pow_pos _)]
    omega
  have hx := ext_l0 h2 hb.2 _ rfl (by omega) (k + 68 - n) (n - 1) 1 (by omega) (by omega)
  rw [show k + 68 - n + (n - 1) + 1 = k + 68 by omega] at hx
  unfold bitc
  rw [Nat.sub_zero]
  unfold rk
  by_cases c : x % 2 ^ n / 2 ^ (n - 1) = 1
  · have c2 : ¬ x % 2 ^ n < 2 ^ (n - 1) := by
      intro h3
      rw [Nat.div_eq_of_lt h3] at c
      omega
    rw [c] at hx ⊢
    rw [if_pos (by decide), show k + 69 = (k + 68) + 1 from rfl, vernierref01_Extend.j1, if_neg c2]
    have hx' : vernierref01_Extend.l0 (k + 68) (n : Int) b (-1) 1 = some (((x % 2 ^ n : Nat) : Int) - ((1 * 2 ^ n : Nat) : Int), 0) := hx
    rw [hx', Nat.one_mul]
    rfl
  · have c1 : x % 2 ^ n / 2 ^ (n - 1) = 0 := Nat.lt_one_iff.mp (Nat.lt_of_le_of_ne (Nat.le_of_lt_succ ht) c)
    have c2 : x % 2 ^ n < 2 ^ (n - 1) := Nat.lt_of_div_eq_zero (pow_pos _) c1
    rw [c1] at hx ⊢
    rw [if_neg (by decide), show k + 69 = (k + 68) + 1 from rfl, vernierref01_Extend.j1, if_pos c2]
    have hx' : vernierref01_Extend.l0 (k + 68) (n : Int) b 0 1 = some (((x % 2 ^ n : Nat) : Int) - ((0 * 2 ^ n : Nat) : Int), 0) := hx
    rw [hx', Nat.zero_mul, Option.bind_some]
    rw [show (((x % 2 ^ n : Nat) : Int) - ((0 : Nat) : Int)) = ((x % 2 ^ n : Nat) : Int) by omega]
/-- How two ranks lie: -1, 0, 1. -/
def cmpI (x y : Int) : Int := if x < y then -1 else if x > y then 1 else 0
theorem rcmp_yes {n : Nat} (h : Wd n) (x y : Nat) (k : Nat) : vernierref08_Cmp.f (k + 70) (n : Int) (x : Int) (y : Int) = some (cmpI (rk n (x % 2 ^ n)) (rk n (y % 2 ^ n))) := by
  unfold vernierref08_Cmp.f vernierref08_Cmps.f
  rw [rrank_yes h, rrank_yes h]
  simp only [Option.bind_some, if_true]
  unfold cmpI
  split
  · rfl
  · split <;> rfl
end Go.Proofs.Ytnlbfomlfhigcaa.M
