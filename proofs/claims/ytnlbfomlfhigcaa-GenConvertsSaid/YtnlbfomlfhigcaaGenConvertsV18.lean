/- Walks and plain laws that the claim stands on: each theorem named calls says that a call of a function returns what its f computes; the others are plain laws of these f, and the words that the walks use. -/
import Derived.Test.YtnlbfomlfhigcaaGenConvertsV2
import Derived.Test.YtnlbfomlfhigcaaGenConvertsV17
import Derived.Test.YtnlbfomlfhigcaaGenConvertsV16
import Derived.Test.YtnlbfomlfhigcaaGenConvertsV13
import Derived.Test.YtnlbfomlfhigcaaGenConvertsV11
import Derived.Test.YtnlbfomlfhigcaaGenConvertsV5
import Derived.Test.YtnlbfomlfhigcaaGenConvertsV4
namespace Go.Proofs.Ytnlbfomlfhigcaa.Q
open Go.RowKit Go.Proofs.YtnlbfomlfhigcaaW.PrintWords Go.Proofs.YtnlbfomlfhigcaaW.PrintLast Go.Proofs.YtnlbfomlfhigcaaW.PrintMore
attribute [local go_sem] max2_int min2_int max_two min_two max_three min_three max_four min_four
set_option linter.unusedVariables false
set_option linter.unusedSimpArgs false
end Go.Proofs.Ytnlbfomlfhigcaa.Q
namespace Go.Proofs.Ytnlbfomlfhigcaa.M
open Go.RowKit Go.Proofs.YtnlbfomlfhigcaaW.PrintWords Go.Proofs.YtnlbfomlfhigcaaW.PrintLast Go.Proofs.YtnlbfomlfhigcaaW.PrintMore Go.Proofs.Ytnlbfomlfhigcaa.Q
def bitc (len v i : Nat) : Nat := 48 + v / 2 ^ (len - 1 - i) % 2
def IsBits (b : ByteArray) (len v : Nat) : Prop := b.size = len ∧ v < 2 ^ len ∧ ∀ i, i < len → bt b (i : Int) = ((bitc len v i : Nat) : Int)
theorem bitc_range (len v i : Nat) : bitc len v i = 48 ∨ bitc len v i = 49 := by unfold bitc; omega
theorem bt_strOfNums (l : List Int) (i : Nat) (hi : i < l.length) : bt (strOfNums l) (i : Int) = ((l.getD i 0).toNat % 256 : Nat) := by
  unfold bt
  have hs : (strOfNums l).size = l.length := strOfNums_size l
  rw [dif_pos (by rw [hs]; simpa using hi)]
  have : (strOfNums l)[(i : Int).toNat]'(by rw [hs]; simpa using hi) = UInt8.ofNat (l.getD i 0).toNat := by
    show ((l.map fun n => UInt8.ofNat n.toNat).toArray)[(i : Int).toNat]'_ = _
    simp [List.getD, hi]
  rw [this]
  simp
theorem append_size (a b : ByteArray) : (a ++ b).size = a.size + b.size := by simp
theorem bt_append (a b : ByteArray) (i : Nat) (hi : i < a.size + b.size) : bt (a ++ b) (i : Int) = if i < a.size then bt a (i : Int) else bt b ((i - a.size : Nat) : Int) := by
  unfold bt
  simp only [Int.toNat_natCast]
  rw [dif_pos (by rw [append_size]; exact hi)]
  by_cases c : i < a.size
  · rw [if_pos c, dif_pos c, ByteArray.getElem_append_left c]
  · rw [if_neg c, dif_pos (by omega), ByteArray.getElem_append_right (by omega)]
theorem extract_size (b : ByteArray) (i j : Nat) : (b.extract i j).size = min j b.size - i := by simp
theorem bt_extract (b : ByteArray) (i j k : Nat) (hk : k < min j b.size - i) : bt (b.extract i j) (k : Int) = bt b ((i + k : Nat) : Int) := by
  unfold bt
  simp only [Int.toNat_natCast]
  rw [dif_pos (by rw [extract_size]; exact hk), dif_pos (by omega), ByteArray.getElem_extract]
theorem IsBits.extract {b : ByteArray} {len v : Nat} (h : IsBits b len v) {i j : Nat} (hij : i ≤ j) (hj : j ≤ len) : IsBits (b.extract i j) (j - i) (v / 2 ^ (len - j) % 2 ^ (j - i)) := by
  obtain ⟨h1, h2, h3⟩ := h
  refine ⟨by rw [extract_size, h1]; omega, Nat.mod_lt _ (pow_pos _), fun k hk => ?_⟩
  rw [bt_extract b i j k (by rw [h1]; omega), h3 _ (by omega)]
  congr 1
  unfold bitc
  congr 1
  have e : j - i = (j - i - 1 - k) + (k + 1) := by omega
  have e2 : v / 2 ^ (len - j) % 2 ^ (j - i) / 2 ^ (j - i - 1 - k) % 2 = v / 2 ^ (len - j) / 2 ^ (j - i - 1 - k) % 2 := by
    rw [show 2 ^ (j - i) = 2 ^ (j - i - 1 - k) * 2 ^ (k + 1) by rw [← Nat.pow_add]; exact congrArg (2 ^ ·) e, Nat.mod_mul_right_div_self, Nat.pow_succ, Nat.mul_comm, Nat.mod_mul_right_mod]
  rw [e2, Nat.div_div_eq_div_mul, ← Nat.pow_add]
  exact congrArg (fun z => v / 2 ^ z % 2) (by omega)
theorem IsBits.append {a b : ByteArray} {la lb va vb : Nat} (h : IsBits a la va) (h' : IsBits b lb vb) : IsBits (a ++ b) (la + lb) (va * 2 ^ lb + vb) := by
  obtain ⟨h1, h2, h3⟩ := h
  obtain ⟨g1, g2, g3⟩ := h'
  refine ⟨by rw [append_size, h1, g1], ?_, fun i hi => ?_⟩
  · have : (va + 1) * 2 ^ lb ≤ 2 ^ la * 2 ^ lb := Nat.mul_le_mul_right _ h2
    rw [← Nat.pow_add, Nat.add_mul, Nat.one_mul] at this
    omega
  · rw [bt_append a b i (by rw [h1, g1]; exact hi), h1]
    by_cases c : i < la
    · rw [if_pos c, h3 i c]
      congr 1
      unfold bitc
      congr 1
      have e : la + lb - 1 - i = lb + (la - 1 - i) := by omega
      rw [e, Nat.pow_add, ← Nat.div_div_eq_div_mul, Nat.add_comm (va * 2 ^ lb), Nat.add_mul_div_right _ _ (pow_pos lb), Nat.div_eq_of_lt g2, Nat.zero_add]
    · rw [if_neg c, g3 (i - la) (by omega)]
      congr 1
      unfold bitc
      congr 1
      have e : la + lb - 1 - i = lb - 1 - (i - la) := by omega
      have e2 : 2 ^ lb = 2 ^ (lb - 1 - (i - la)) * (2 * 2 ^ (i - la)) := by rw [← Nat.pow_succ', ← Nat.pow_add]; exact congrArg (2 ^ ·) (by omega)
      rw [e, e2]
      have e3 : va * (2 ^ (lb - 1 - (i - la)) * (2 * 2 ^ (i - la))) + vb = vb + (va * 2 ^ (i - la)) * 2 * 2 ^ (lb - 1 - (i - la)) := by
        rw [Nat.add_comm]
        congr 1
        rw [Nat.mul_comm (2 ^ (lb - 1 - (i - la))), ← Nat.mul_assoc, ← Nat.mul_assoc, Nat.mul_right_comm va]
      rw [e3, Nat.add_mul_div_right _ _ (pow_pos _), Nat.add_mul_mod_self_right]
theorem text_l0 {x n : Nat} (hn : n ≤ 64) (k : Nat) : ∀ d j : Nat, d + j = n → ∀ l : List Int, l.length = j → (∀ i, i < j → l.getD i 0 = ((bitc n (x % 2 ^ n) i : Nat) : Int)) →
    ∃ b, vernierref01_Text.l0 (k + d + 1) (x : Int) l ((d : Int) - 1) = some b ∧ IsBits b n (x % 2 ^ n) := by
  intro d
  induction d with
  | zero =>
    intro j hj l hl hg
    rw [vernierref01_Text.l0, if_neg (by omega)]
    refine ⟨_, rfl, by rw [strOfNums_size]; omega, Nat.mod_lt _ (pow_pos _), fun i hi => ?_⟩
    rw [bt_strOfNums l i (by omega), hg i (by omega), Int.toNat_natCast]
    have := bitc_range n (x % 2 ^ n) i
    rw [Nat.mod_eq_of_lt (by omega)]
  | succ d ih =>
    intro j hj l hl hg
    rw [show k + (d + 1) + 1 = (k + d + 1) + 1 by omega, vernierref01_Text.l0, if_pos (by omega), if_pos (by omega), if_pos (by omega)]
    have e1 : (((d + 1 : Nat) : Int) - 1) = ((d : Nat) : Int) := by omega
    rw [e1, shr_nat x d (by omega)]
    have e2 : wrap64 ((d : Int) - 1) = (d : Int) - 1 := wrap64_id (by omega) (by omega)
    rw [e2]
    refine ih (j + 1) (by omega) _ (by simp [hl]) (fun i hi => ?_)
    by_cases c : i < j
    · rw [List.getD_eq_getElem?_getD, List.getElem?_append_left (by omega), ← List.getD_eq_getElem?_getD]
      exact hg i c
    · have : i = j := by omega
      subst this
      rw [List.getD_eq_getElem?_getD, List.getElem?_append_right (by omega), hl, Nat.sub_self]
      have e3 : n - 1 - i = d := by omega
      unfold bitc
      rw [e3]
      have e4 : x % 2 ^ n / 2 ^ d % 2 = x / 2 ^ d % 2 := by
        rw [show 2 ^ n = 2 ^ d * (2 * 2 ^ i) by rw [← Nat.pow_succ', ← Nat.pow_add]; exact congrArg (2 ^ ·) (by omega), Nat.mod_mul_right_div_self, Nat.mod_mul_right_mod]
      rw [e4]
      show (48 + Int.tmod ((x / 2 ^ d : Nat) : Int) 2) % 256 = _
      rw [Int.tmod_eq_emod_of_nonneg (Int.natCast_nonneg _)]
      generalize x / 2 ^ d = z
      omega
theorem text_bits (x : Nat) {n : Nat} (hn : n ≤ 64) (k : Nat) : ∃ b, vernierref01_Text.f (k + 66) (x : Int) (n : Int) = some b ∧ IsBits b n (x % 2 ^ n) := by
  unfold vernierref01_Text.f
  rw [wrap64_id (by omega) (by omega)]
  have := text_l0 (x := x) hn (k + 65 - n) n 0 (by omega) [] rfl (fun i hi => absurd hi (Nat.not_lt_zero _))
  rw [show k + 65 - n + n + 1 = k + 66 by omega] at this
  exact this
theorem number_l0 {b : ByteArray} {len v : Nat} (h : IsBits b len v) (hlen : len ≤ 64) (k : Nat) : ∀ d i : Nat, i + d = len →
    vernierref01_Number.l0 (k + d + 1) b ((v / 2 ^ d : Nat) : Int) (i : Int) = some (v : Int) := by
  obtain ⟨h1, h2, h3⟩ := h
  intro d
  induction d with
  | zero =>
    intro i hi
    rw [vernierref01_Number.l0, if_neg (by omega), Nat.pow_zero, Nat.div_one]
  | succ d ih =>
    intro i hi
    rw [show k + (d + 1) + 1 = (k + d + 1) + 1 by omega, vernierref01_Number.l0, if_pos (by omega), if_pos (by omega), h3 i (by omega)]
    have hw : wrap64 ((i : Int) + 1) = ((i + 1 : Nat) : Int) := by unfold wrap64; omega
    have hv : v / 2 ^ d < 2 ^ 64 := Nat.lt_of_lt_of_le (Nat.lt_of_le_of_lt (Nat.div_le_self _ _) h2) (pow_le hlen)
    have e : IntKind.u64.wrap (IntKind.u64.wrap (2 * ((v / 2 ^ (d + 1) : Nat) : Int)) + (((bitc len v i : Nat) : Int) - 48) % 256) = ((v / 2 ^ d : Nat) : Int) := by
      unfold bitc
      rw [show len - 1 - i = d by omega, Nat.pow_succ, ← Nat.div_div_eq_div_mul, u64w, u64w]
      rw [p64] at hv
      generalize v / 2 ^ d = z at *
      omega
    rw [e, hw]
    exact ih (i + 1) (by omega)
theorem number_bits {b : ByteArray} {len v : Nat} (h : IsBits b len v) (hlen : len ≤ 64) (k : Nat) : vernierref01_Number.f (k + 66) b = some (v : Int) := by
  unfold vernierref01_Number.f
  have := number_l0 h hlen (k + 65 - len) len 0 (by omega)
  rw [Nat.div_eq_of_lt h.2.1, show k + 65 - len + len + 1 = k + 66 by omega] at this
  exact this
theorem isw_yes {n : Nat} (h : Wd n) : vernierref05_Is.f (n : Int) = some true := by rcases h with rfl | rfl | rfl | rfl <;> decide
theorem isw_no {n : Int} (h : ¬ (n = 8 ∨ n = 16 ∨ n = 32 ∨ n = 64)) : vernierref05_Is.f n = some false := by
  unfold vernierref05_Is.f
  rw [if_neg (by omega), if_neg (by omega), if_neg (by omega)]
  congr 1
  exact beq_eq_false_iff_ne.mpr (by omega)
theorem rfold5_yes {n : Nat} (h : Wd n) (x : Nat) (k : Nat) : vernierref05_Fold.f (k + 66) (n : Int) (x : Int) = some (((x % 2 ^ n : Nat) : Int), 0) := by
  unfold vernierref05_Fold.f
  rw [isw_yes h]
  simp only [Option.bind_some, if_true]
  obtain ⟨b, h1, h2⟩ := text_bits x h.bd.2 k
  rw [h1]
  simp only [Option.bind_some]
  rw [number_bits h2 h.bd.2]
  rfl
theorem rfold_yes {n : Nat} (h : Wd n) (x : Nat) (k : Nat) : vernierref06_Fold.f (k + 66) (n : Int) (x : Int) = some ((x % 2 ^ n : Nat) : Int) := by
  unfold vernierref06_Fold.f
  rw [rfold5_yes h]
  rfl
theorem power_l0 (n : Nat) (hn : n ≤ 63) (k : Nat) : ∀ d i : Nat, i + d = n → vernierref05_Power.l0 (k + d + 1) (n : Int) ((2 ^ i : Nat) : Int) (i : Int) = some ((2 ^ n : Nat) : Int) := by
  intro d
  induction d with
  | zero => intro i hi; rw [vernierref05_Power.l0, if_neg (by omega), show i = n by omega]
  | succ d ih =>
    intro i hi
    rw [show k + (d + 1) + 1 = (k + d + 1) + 1 by omega, vernierref05_Power.l0, if_pos (by omega)]
    have hw : wrap64 ((i : Int) + 1) = ((i + 1 : Nat) : Int) := by unfold wrap64; omega
    have e : IntKind.u64.wrap (2 * ((2 ^ i : Nat) : Int)) = ((2 ^ (i + 1) : Nat) : Int) := by
      have h1 : 2 ^ (i + 1) ≤ 2 ^ 63 := pow_le (by omega)
      rw [Nat.pow_succ] at h1 ⊢
      rw [p63] at h1
      rw [u64w]
      omega
    rw [e, hw]
    exact ih (i + 1) (by omega)
theorem power_val {n : Nat} (hn : n ≤ 63) (k : Nat) : vernierref05_Power.f (k + 66) (n : Int) = some ((2 ^ n : Nat) : Int) := by
  unfold vernierref05_Power.f
  have := power_l0 n hn (k + 65 - n) n 0 (by omega)
  rw [show k + 65 - n + n + 1 = k + 66 by omega] at this
  exact this
end Go.Proofs.Ytnlbfomlfhigcaa.M
namespace Go.Proofs.Ytnlbfomlfhigcaa.M
def Runs (L y r : Nat) (ones : Bool) : Prop :=
  1 ≤ r ∧ r ≤ L ∧ (if ones then 2 ^ L ≤ y + 2 ^ (L - r) ∧ (r = L ∨ y + 2 ^ (L - r - 1) < 2 ^ L) else y < 2 ^ (L - r) ∧ (r = L ∨ 2 ^ (L - r - 1) ≤ y))
theorem Runs.rest {L y r : Nat} {ones : Bool} (h : Runs L y r ones) (hy : 1 ≤ y) (hy2 : y < 2 ^ L) :
    (ones = true → y = 2 ^ L - 2 ^ (L - r) + y % 2 ^ (L - r - 1)) ∧ (ones = false → r < L ∧ y = 2 ^ (L - r - 1) + y % 2 ^ (L - r - 1)) := by
  obtain ⟨h1, h2, h3⟩ := h
  constructor
  · rintro rfl
    rw [if_pos rfl] at h3
    obtain ⟨h3, h4⟩ := h3
    have p1 := pow_le (show L - r ≤ L by omega)
    rcases h4 with h4 | h4
    · subst h4
      rw [Nat.sub_self, Nat.pow_zero] at h3
      simp only [Nat.sub_self, Nat.pow_zero, Nat.zero_sub, Nat.mod_one]
      omega
    · by_cases e : r = L
      · subst e
        rw [Nat.sub_self, Nat.pow_zero] at h3
        simp only [Nat.sub_self, Nat.pow_zero, Nat.zero_sub, Nat.mod_one]
        omega
      · have e1 : 2 ^ (L - r) = 2 * 2 ^ (L - r - 1) := by rw [← Nat.pow_succ']; exact congrArg (2 ^ ·) (by omega)
        have e2 : 2 ^ L = 2 ^ (r + 1) * 2 ^ (L - r - 1) := by rw [← Nat.pow_add]; exact congrArg (2 ^ ·) (by omega)
        have p2 := pow_pos (r + 1)
        have p3 : 2 ≤ 2 ^ (r + 1) := by rw [Nat.pow_succ]; have := pow_pos r; omega
        generalize 2 ^ (L - r - 1) = d at *
        generalize 2 ^ (r + 1) = a at *
        obtain ⟨a, rfl⟩ : ∃ b, a = b + 2 := ⟨a - 2, by omega⟩
        have e3 : (a + 2) * d = a * d + 2 * d := Nat.add_mul _ _ _
        have hq : y = a * d + (y - a * d) := by omega
        have hm : y % d = y - a * d := by
          rw [hq, Nat.add_comm (a * d), Nat.add_mul_mod_self_right, Nat.mod_eq_of_lt (by omega)]
          omega
        omega
  · rintro rfl
    simp only [Bool.false_eq_true, if_false] at h3
    obtain ⟨h3, h4⟩ := h3
    have hr : r ≠ L := by
      rintro rfl
      rw [Nat.sub_self, Nat.pow_zero] at h3
      omega
    refine ⟨by omega, ?_⟩
    rcases h4 with h4 | h4
    · exact absurd h4 hr
    · have e1 : 2 ^ (L - r) = 2 * 2 ^ (L - r - 1) := by rw [← Nat.pow_succ']; exact congrArg (2 ^ ·) (by omega)
      generalize 2 ^ (L - r - 1) = d at *
      have hq : y = (y - d) + 1 * d := by omega
      have hm : y % d = y - d := by
        rw [hq, Nat.add_mul_mod_self_right, Nat.mod_eq_of_lt (by omega)]
        omega
      omega
def reg (r : Nat) (ones : Bool) : Int := if ones then (r : Int) - 1 else -(r : Int)
theorem parse_dec {n y r : Nat} (hn : Wd n) (ones : Bool) (hy : 1 ≤ y) (hy2 : y < 2 ^ (n - 1)) (h : Runs (n - 1) y r ones) (m eb fb e fr : Nat)
    (hm : m = n - 1 - r - 1) (heb : eb = min m 2) (hfb : fb = m - eb) (he : e = y / 2 ^ fb % 2 ^ eb) (hfr : fr = y % 2 ^ fb) :
    Dec n y (4 * reg r ones + ((e * 2 ^ (2 - eb) : Nat) : Int)) (2 ^ 63 + fr * 2 ^ (63 - fb)) ∧ fb ≤ 61 ∧ e * 2 ^ (2 - eb) ≤ 3 ∧ fr < 2 ^ fb := by
  have hb := hn.bd
  have hR := h
  obtain ⟨h1, h2, _⟩ := h
  have hfr2 : fr < 2 ^ fb := by rw [hfr]; exact Nat.mod_lt _ (pow_pos _)
  have hem : y % 2 ^ m = e * 2 ^ fb + fr := by
    have : m = fb + eb := by omega
    rw [this, Nat.pow_add, Nat.mod_mul, he, hfr]
    rw [Nat.mul_comm]
    omega
  have hfb61 : fb ≤ 61 := by omega

  have hcase : (m = 0 ∧ eb = 0 ∧ fb = 0) ∨ (m = 1 ∧ eb = 1 ∧ fb = 0) ∨ (2 ≤ m ∧ eb = 2 ∧ fb = m - 2) := by omega
  have he3 : e * 2 ^ (2 - eb) ≤ 3 := by
    have : e < 2 ^ eb := by rw [he]; exact Nat.mod_lt _ (pow_pos _)
    rcases hcase with ⟨_, rfl, _⟩ | ⟨_, rfl, _⟩ | ⟨_, rfl, _⟩ <;> simp only [Nat.reduceSub, Nat.reducePow] at * <;> omega
  have htl : e * 2 ^ (2 - eb) * 2 ^ 127 + fr * 2 ^ (127 - fb) = (y % 2 ^ m) * 2 ^ (129 - m) := by
    rw [hem, Nat.add_mul]
    rcases hcase with ⟨rfl, rfl, rfl⟩ | ⟨rfl, rfl, rfl⟩ | ⟨hm2, rfl, rfl⟩
    · have : fr = 0 := by simpa using hfr2
      have : e = 0 := by rw [he, Nat.pow_zero, Nat.mod_one]
      subst_vars
      omega
    · have : fr = 0 := by simpa using hfr2
      rw [this]
      omega
    · rw [show 2 - 2 = 0 from rfl, Nat.pow_zero, Nat.mul_one, show 127 - (m - 2) = 129 - m by omega, Nat.mul_assoc, ← Nat.pow_add, show m - 2 + (129 - m) = 127 by omega]
  generalize hE : e * 2 ^ (2 - eb) = E at *
  have hf : fr * 2 ^ (63 - fb) < 2 ^ 63 := by
    have : fr * 2 ^ (63 - fb) < 2 ^ fb * 2 ^ (63 - fb) := Nat.mul_lt_mul_of_pos_right hfr2 (pow_pos _)
    rw [← Nat.pow_add, show fb + (63 - fb) = 63 by omega] at this
    exact this
  have hF : (2 ^ 63 + fr * 2 ^ (63 - fb)) * 2 ^ 64 - 2 ^ 127 = fr * 2 ^ (127 - fb) := by
    rw [Nat.add_mul, Nat.mul_assoc fr, ← Nat.pow_add, ← Nat.pow_add, show 63 + 64 = 127 from rfl, show 63 - fb + 64 = 127 - fb by omega]
    omega
  have htl2 : tl (4 * reg r ones + (E : Int)) ((2 ^ 63 + fr * 2 ^ (63 - fb)) * 2 ^ 64) = (y % 2 ^ m) * 2 ^ (129 - m) := by
    unfold tl
    rw [hF, show ((4 * reg r ones + (E : Int)) % 4).toNat = E by omega]
    exact htl
  have hs4 : (4 * reg r ones + (E : Int)) / 4 = reg r ones := by omega
  refine ⟨?_, hfb61, he3, hfr2⟩
  have hrest := hR.rest hy hy2
  unfold Dec
  refine ⟨by omega, by omega, ?_⟩
  cases ones with
  | true =>
    have hreg : reg r true = ((r - 1 : Nat) : Int) := by unfold reg; rw [if_pos rfl]; omega
    have hye := hrest.1 rfl
    rw [← hm] at hye
    have hEr : r = n - 1 → E = 0 := by
      intro hr
      have : m = 0 := by omega
      have : eb = 0 := by omega
      subst this
      rw [← hE, he, Nat.pow_zero, Nat.mod_one, Nat.zero_mul]
    refine ⟨by rw [hreg]; omega, ?_, ?_⟩
    · rw [hreg]
      by_cases hr : r = n - 1
      · rw [hEr hr]; omega
      · omega
    · rw [str_pos (hs4.trans hreg), htl2]
      have p1 := pow_le (show n - 1 - r ≤ n - 1 by omega)
      have e1 : 2 ^ 130 * 2 ^ (69 - (r - 1)) = 2 ^ (n - 1 - r) * 2 ^ (201 - n) := by rw [← Nat.pow_add, ← Nat.pow_add]; exact congrArg (2 ^ ·) (by omega)
      have e3 : 2 ^ (n - 1) * 2 ^ (201 - n) = 2 ^ 200 := (unit_eq hn).1
      have hmul : (y + 2 ^ (n - 1 - r)) * 2 ^ (201 - n) = (2 ^ (n - 1) + y % 2 ^ m) * 2 ^ (201 - n) := congrArg (· * 2 ^ (201 - n)) (by omega)
      rw [Nat.add_mul, Nat.add_mul, e3, ← e1] at hmul
      have e2 : y % 2 ^ m * 2 ^ (129 - m) * 2 ^ (69 - (r - 1)) = y % 2 ^ m * 2 ^ (201 - n) := by
        by_cases hr : r = n - 1
        · have : m = 0 := by omega
          subst this
          simp only [Nat.pow_zero, Nat.mod_one, Nat.zero_mul]
        · rw [Nat.mul_assoc, ← Nat.pow_add]; exact congrArg (fun z => y % 2 ^ m * 2 ^ z) (by omega)
      rw [e2]
      have := pos_room (show r - 1 ≤ 69 by omega)
      omega
  | false =>
    obtain ⟨hrl, hye⟩ := hrest.2 rfl
    rw [← hm] at hye
    have hreg : reg r false = -(r : Int) := rfl
    refine ⟨by rw [hreg]; omega, by rw [hreg]; omega, ?_⟩
    rw [str_neg (hs4.trans hreg) h1, htl2]
    have e1 : 2 ^ 129 * 2 ^ (70 - r) = 2 ^ m * 2 ^ (201 - n) := by rw [← Nat.pow_add, ← Nat.pow_add]; exact congrArg (2 ^ ·) (by omega)
    have e2 : y % 2 ^ m * 2 ^ (129 - m) * 2 ^ (70 - r) = y % 2 ^ m * 2 ^ (201 - n) := by
      rw [Nat.mul_assoc, ← Nat.pow_add]; exact congrArg (fun z => y % 2 ^ m * 2 ^ z) (by omega)
    rw [e1, e2, ← Nat.add_mul, ← hye]
end Go.Proofs.Ytnlbfomlfhigcaa.M
namespace Go.Proofs.Ytnlbfomlfhigcaa.M
open Go.RowKit Go.Proofs.YtnlbfomlfhigcaaW.PrintWords Go.Proofs.YtnlbfomlfhigcaaW.PrintLast Go.Proofs.YtnlbfomlfhigcaaW.PrintMore Go.Proofs.Ytnlbfomlfhigcaa.Q
theorem bitLen_zero : Lib.bitLen 0 = 0 := by decide +kernel
theorem bitLen_bd {z : Nat} (h : z < 2 ^ 64) (h0 : z ≠ 0) : 1 ≤ Lib.bitLen z ∧ Lib.bitLen z ≤ 64 ∧ 2 ^ (Lib.bitLen z - 1) ≤ z ∧ z < 2 ^ Lib.bitLen z := by
  obtain ⟨a, b, c⟩ := Lib.bitLenAux_bounds 64 z h h0
  exact ⟨a, Lib.bitLen_le z 64 (by omega) h, b, c⟩
theorem pow_lt_iff {a b : Nat} (h : 2 ^ a < 2 ^ b) : a < b := by
  by_cases c : a < b
  · exact c
  · have := pow_le (show b ≤ a by omega); omega
theorem runs_zeros {L y : Nat} (h1 : 1 ≤ L) (h2 : L ≤ 63) (hy : y < 2 ^ (L - 1)) :
    Runs L y (min (64 - Lib.bitLen (y * 2 ^ (64 - L))) L) false := by
  by_cases h0 : y = 0
  · subst h0
    rw [Nat.zero_mul, bitLen_zero, Nat.min_eq_right (by omega)]
    refine ⟨h1, Nat.le_refl _, ?_⟩
    simp
  · have e1 : 2 ^ (L - 1) * 2 ^ (64 - L) = 2 ^ 63 := by rw [← Nat.pow_add]; exact congrArg (2 ^ ·) (by omega)
    have hz : y * 2 ^ (64 - L) < 2 ^ 63 := by rw [← e1]; exact Nat.mul_lt_mul_of_pos_right hy (pow_pos _)
    have hz1 : 2 ^ (64 - L) ≤ y * 2 ^ (64 - L) := Nat.le_mul_of_pos_left _ (by omega)
    have hp := pow_pos (64 - L)
    obtain ⟨b1, b2, b3, b4⟩ := bitLen_bd (z := y * 2 ^ (64 - L)) (by omega) (by omega)
    generalize Lib.bitLen (y * 2 ^ (64 - L)) = b at *
    have c1 : b - 1 < 63 := pow_lt_iff (Nat.lt_of_le_of_lt b3 hz)
    have c2 : 64 - L < b := pow_lt_iff (Nat.lt_of_le_of_lt hz1 b4)
    rw [Nat.min_eq_left (by omega)]
    refine ⟨by omega, by omega, ?_⟩
    rw [if_neg (by simp)]
    constructor
    · have e : 2 ^ b = 2 ^ (L - (64 - b)) * 2 ^ (64 - L) := by rw [← Nat.pow_add]; exact congrArg (2 ^ ·) (by omega)
      rw [e] at b4
      exact Nat.lt_of_mul_lt_mul_right b4
    · right
      have e : 2 ^ (b - 1) = 2 ^ (L - (64 - b) - 1) * 2 ^ (64 - L) := by rw [← Nat.pow_add]; exact congrArg (2 ^ ·) (by omega)
      rw [e] at b3
      exact Nat.le_of_mul_le_mul_right b3 hp
theorem runs_ones {L y : Nat} (h1 : 1 ≤ L) (h2 : L ≤ 63) (hy : 2 ^ (L - 1) ≤ y) (hy2 : y < 2 ^ L) :
    Runs L y (min (64 - Lib.bitLen (2 ^ 64 - 1 - y * 2 ^ (64 - L))) L) true := by
  have e0 : 2 ^ L * 2 ^ (64 - L) = 2 ^ 64 := by rw [← Nat.pow_add]; exact congrArg (2 ^ ·) (by omega)
  have e1 : 2 ^ (L - 1) * 2 ^ (64 - L) = 2 ^ 63 := by rw [← Nat.pow_add]; exact congrArg (2 ^ ·) (by omega)
  have hp := pow_pos (64 - L)
  have hmul : (2 ^ L - y) * 2 ^ (64 - L) = 2 ^ 64 - y * 2 ^ (64 - L) := by rw [Nat.sub_mul, e0]
  have hlo : 2 ^ 63 ≤ y * 2 ^ (64 - L) := by rw [← e1]; exact Nat.mul_le_mul_right _ hy
  have hhi : y * 2 ^ (64 - L) + 2 ^ (64 - L) ≤ 2 ^ 64 := by rw [← e0, ← Nat.succ_mul]; exact Nat.mul_le_mul_right _ hy2
  by_cases h0 : 2 ^ 64 - 1 - y * 2 ^ (64 - L) < 2 ^ (64 - L)
  · have hyl : 2 ^ L - y ≤ 1 := by
      by_cases c : 2 ^ L - y ≤ 1
      · exact c
      · have : 2 * 2 ^ (64 - L) ≤ (2 ^ L - y) * 2 ^ (64 - L) := Nat.mul_le_mul_right _ (by omega)
        omega
    have hb : Lib.bitLen (2 ^ 64 - 1 - y * 2 ^ (64 - L)) ≤ 64 - L := Lib.bitLen_le _ _ (by omega) h0
    rw [Nat.min_eq_right (by omega)]
    refine ⟨h1, Nat.le_refl _, ?_⟩
    rw [if_pos rfl, Nat.sub_self, Nat.pow_zero]
    omega
  · obtain ⟨b1, b2, b3, b4⟩ := bitLen_bd (z := 2 ^ 64 - 1 - y * 2 ^ (64 - L)) (by omega) (by omega)
    generalize Lib.bitLen (2 ^ 64 - 1 - y * 2 ^ (64 - L)) = b at *
    have c1 : b - 1 < 63 := pow_lt_iff (Nat.lt_of_le_of_lt b3 (by omega))
    have c2 : 64 - L < b := pow_lt_iff (Nat.lt_of_le_of_lt (by omega) b4)
    rw [Nat.min_eq_left (by omega)]
    refine ⟨by omega, by omega, ?_⟩
    rw [if_pos rfl]
    constructor
    · have e : 2 ^ b = 2 ^ (L - (64 - b)) * 2 ^ (64 - L) := by rw [← Nat.pow_add]; exact congrArg (2 ^ ·) (by omega)
      have : (2 ^ L - y) * 2 ^ (64 - L) ≤ 2 ^ (L - (64 - b)) * 2 ^ (64 - L) := by rw [← e]; omega
      have := Nat.le_of_mul_le_mul_right this hp
      omega
    · right
      have e : 2 ^ (b - 1) = 2 ^ (L - (64 - b) - 1) * 2 ^ (64 - L) := by rw [← Nat.pow_add]; exact congrArg (2 ^ ·) (by omega)
      have : 2 ^ (L - (64 - b) - 1) * 2 ^ (64 - L) < (2 ^ L - y) * 2 ^ (64 - L) := by rw [← e]; omega
      have := Nat.lt_of_mul_lt_mul_right this
      omega
theorem run_nat {L x : Nat} (h1 : 1 ≤ L) (h2 : L ≤ 63) (k : Nat) : ∃ r : Nat, Runs L (x % 2 ^ L) r (decide (2 ^ (L - 1) ≤ x % 2 ^ L)) ∧ lead_Run.f (k + 1) (x : Int) (L : Int) = some (decide (2 ^ (L - 1) ≤ x % 2 ^ L), (r : Int), none) := by
  have e0 : 2 ^ L * 2 ^ (64 - L) = 2 ^ 64 := by rw [← Nat.pow_add]; exact congrArg (2 ^ ·) (by omega)
  have e1 : 2 ^ (L - 1) * 2 ^ (64 - L) = 2 ^ 63 := by rw [← Nat.pow_add]; exact congrArg (2 ^ ·) (by omega)
  have hy : x % 2 ^ L < 2 ^ L := Nat.mod_lt _ (pow_pos _)
  have hx : x * 2 ^ (64 - L) % 2 ^ 64 = x % 2 ^ L * 2 ^ (64 - L) := by rw [← e0, Nat.mul_mod_mul_right]
  have hw : wrap64 (64 - (L : Int)) = ((64 - L : Nat) : Int) := by unfold wrap64; omega
  unfold lead_Run.f
  rw [if_neg (by omega)]
  have hd : decide ((L : Int) > 64) = false := by simp; omega
  rw [hd]
  simp only [lead_Run.j0]
  rw [if_neg (by simp), hw, if_pos (by omega), shl_nat x (64 - L) (by omega), hx]
  generalize x % 2 ^ L = y at *
  have hyz : y * 2 ^ (64 - L) < 2 ^ 64 := by rw [← e0]; exact Nat.mul_lt_mul_of_pos_right hy (pow_pos _)
  have hdiv : (((y * 2 ^ (64 - L) : Nat) : Int) / 9223372036854775808 = 1) ↔ 2 ^ (L - 1) ≤ y := by
    rw [← Nat.mul_le_mul_right_iff (pow_pos (64 - L)), e1, p63]
    rw [p64] at hyz
    omega
  by_cases c : 2 ^ (L - 1) ≤ y
  · have hr := runs_ones h1 h2 c hy
    refine ⟨_, by rw [decide_eq_true c]; exact hr, ?_⟩
    have hb := Lib.bitLen_le (2 ^ 64 - 1 - y * 2 ^ (64 - L)) 64 (by omega) (by omega)
    rw [if_pos (hdiv.2 c), xor_all _ hyz]
    unfold bits_LeadingZeros64.f
    rw [if_pos (by rw [p64]; omega), Int.toNat_natCast]
    simp only [Option.bind_some]
    rw [show (64 - ((Lib.bitLen (2 ^ 64 - 1 - y * 2 ^ (64 - L)) : Nat) : Int)) = ((64 - Lib.bitLen (2 ^ 64 - 1 - y * 2 ^ (64 - L)) : Nat) : Int) by omega, mn_nat, hdiv.2 c, decide_eq_true c]
    rfl
  · have hr := runs_zeros h1 h2 (show y < 2 ^ (L - 1) by omega)
    refine ⟨_, by rw [decide_eq_false c]; exact hr, ?_⟩
    have hb := Lib.bitLen_le (y * 2 ^ (64 - L)) 64 (by omega) (by omega)
    rw [if_neg (fun h => c (hdiv.1 h))]
    unfold bits_LeadingZeros64.f
    rw [if_pos (by rw [p64] at hyz; omega), Int.toNat_natCast]
    simp only [Option.bind_some]
    rw [show (64 - ((Lib.bitLen (y * 2 ^ (64 - L)) : Nat) : Int)) = ((64 - Lib.bitLen (y * 2 ^ (64 - L)) : Nat) : Int) by omega, mn_nat, decide_eq_false c, beq_eq_false_iff_ne.mpr (fun h => c (hdiv.1 h))]
theorem shl_i64_small {e j : Nat} (he : e ≤ 3) (hj : j ≤ 2) : shl .i64 (wrap64 (e : Int)) (j : Int) = ((e * 2 ^ j : Nat) : Int) := by
  unfold shl
  rw [IntKind.wrap_i64, Int.toNat_natCast, Nat.min_eq_left (show j ≤ IntKind.i64.bits from by show _ ≤ 64; omega), cast_pow, wrap64_id (by omega) (by omega)]
  have h1 : 2 ^ j ≤ 2 ^ 2 := pow_le hj
  have h2 : e * 2 ^ j ≤ 3 * 2 ^ 2 := Nat.mul_le_mul he h1
  rw [show ((e : Int) * ((2 ^ j : Nat) : Int)) = ((e * 2 ^ j : Nat) : Int) by simp]
  generalize e * 2 ^ j = z at *
  omega
theorem split_j2 {L x r m : Nat} (hL : L ≤ 63) (hx : x < 2 ^ 64) (h1 : 1 ≤ r) (h2 : r ≤ L) (hm : m = L - r - 1) (neg ones : Bool) (rg : Int) (k : Nat) :
    codec_Split.j2 (k + 1) (x : Int) (L : Int) neg ones (r : Int) rg 0 0 0 0 =
      some (neg, ones, (r : Int), rg, ((min m 2 : Nat) : Int), ((x / 2 ^ (m - min m 2) % 2 ^ (min m 2) * 2 ^ (2 - min m 2) : Nat) : Int), ((m - min m 2 : Nat) : Int), ((x % 2 ^ (m - min m 2) : Nat) : Int), none) := by
  have e1 : mx (wrap64 (wrap64 ((L : Int) - (r : Int)) - 1)) 0 = ((m : Nat) : Int) := by
    unfold mx wrap64
    split <;> omega
  have e2 : mn ((m : Nat) : Int) 2 = ((min m 2 : Nat) : Int) := mn_nat m 2
  have e3 : wrap64 ((m : Int) - ((min m 2 : Nat) : Int)) = ((m - min m 2 : Nat) : Int) := by unfold wrap64; omega
  have e4 : wrap64 (2 - ((min m 2 : Nat) : Int)) = ((2 - min m 2 : Nat) : Int) := by unfold wrap64; omega
  simp only [codec_Split.j2]
  rw [e1, e2, e3, e4, field_nat hx (by omega) (by omega)]
  simp only [Option.bind_some]
  rw [if_pos (by omega)]
  have e5 := field_nat (x := x) (a := 0) (j := m - min m 2) hx (by omega) (by omega)
  rw [Nat.pow_zero, Nat.div_one] at e5
  have e6 : lead_Field.f (x : Int) 0 ((m - min m 2 : Nat) : Int) = some (((x % 2 ^ (m - min m 2) : Nat) : Int), none) := e5
  rw [e6]
  simp only [Option.bind_some]
  have h3 : x / 2 ^ (m - min m 2) % 2 ^ (min m 2) < 2 ^ (min m 2) := Nat.mod_lt _ (pow_pos _)
  have h4 : 2 ^ (min m 2) ≤ 2 ^ 2 := pow_le (by omega)
  rw [shl_i64_small (by omega) (by omega)]
def sgn (n y : Nat) : Bool := decide (2 ^ (n - 1) ≤ y)
def mag (n y : Nat) : Nat := if 2 ^ (n - 1) ≤ y then 2 ^ n - y else y
theorem two_half {n : Nat} (h : Wd n) : 2 ^ n = 2 * 2 ^ (n - 1) := by
  have := h.bd
  rw [← Nat.pow_succ']
  exact congrArg (2 ^ ·) (by omega)
theorem mag_bd {n y : Nat} (h : Wd n) (hy : y < 2 ^ n) (hk : knd n y = 1) : 1 ≤ mag n y ∧ mag n y < 2 ^ (n - 1) := by
  have e := two_half h
  unfold knd at hk
  split at hk
  · omega
  · split at hk
    · omega
    · unfold mag
      split <;> omega
theorem split_real {n : Nat} (hn : Wd n) {p : Nat} (hp : p < 2 ^ 64) (hk : knd n (p % 2 ^ n) = 1) : ∃ r m : Nat, ∃ ones : Bool, ∃ x : Nat, Runs (n - 1) (mag n (p % 2 ^ n)) r ones ∧ m = n - 1 - r - 1 ∧ x % 2 ^ (n - 1) = mag n (p % 2 ^ n) ∧
    ∀ k, codec_Split.f (k + 8) (n : Int) (p : Int) = some (sgn n (p % 2 ^ n), ones, (r : Int), reg r ones, ((min m 2 : Nat) : Int), ((x / 2 ^ (m - min m 2) % 2 ^ (min m 2) * 2 ^ (2 - min m 2) : Nat) : Int), ((m - min m 2 : Nat) : Int), ((x % 2 ^ (m - min m 2) : Nat) : Int), none) := by
  have hb := hn.bd
  have e2 := two_half hn
  have hy : p % 2 ^ n < 2 ^ n := Nat.mod_lt _ (pow_pos _)
  have hmb := mag_bd hn hy hk

  obtain ⟨x, hx, hx64, hxs⟩ : ∃ x : Nat, x % 2 ^ (n - 1) = mag n (p % 2 ^ n) ∧ x < 2 ^ 64 ∧ (x : Int) = (if rk n (p % 2 ^ n) < 0 then IntKind.u64.wrap (-(p : Int)) else (p : Int)) := by
    by_cases c : 2 ^ (n - 1) ≤ p % 2 ^ n
    · have h1 : rk n (p % 2 ^ n) < 0 := by unfold rk; rw [if_neg (by omega)]; omega
      have h0 : p ≠ 0 := by rintro rfl; rw [Nat.zero_mod] at c; have := pow_pos (n - 1); omega
      refine ⟨2 ^ 64 - p, ?_, by omega, by rw [if_pos h1, u64w, p64]; rw [p64] at hp; omega⟩
      have hm : mag n (p % 2 ^ n) = 2 ^ n - p % 2 ^ n := by unfold mag; rw [if_pos c]
      rw [hm] at hmb ⊢
      have hd : 2 ^ (64 - n) * 2 ^ n = 2 ^ 64 := by rw [← Nat.pow_add]; exact congrArg (2 ^ ·) (by omega)
      have hdm := Nat.div_add_mod p (2 ^ n)
      have hq : p / 2 ^ n < 2 ^ (64 - n) := by rw [Nat.div_lt_iff_lt_mul (pow_pos _), hd]; exact hp
      have : 2 ^ 64 - p = (2 ^ n - p % 2 ^ n) + (2 * (2 ^ (64 - n) - 1 - p / 2 ^ n)) * 2 ^ (n - 1) := by
        rw [Nat.mul_comm 2, Nat.mul_assoc, ← e2, Nat.sub_mul, Nat.sub_mul, hd, Nat.one_mul, Nat.mul_comm (p / 2 ^ n)]
        have : 2 ^ n * (p / 2 ^ n) + 2 ^ n ≤ 2 ^ 64 := by rw [← hd, Nat.mul_comm (2 ^ (64 - n)), ← Nat.mul_succ]; exact Nat.mul_le_mul_left _ hq
        omega
      rw [this, Nat.add_mul_mod_self_right, Nat.mod_eq_of_lt hmb.2]
    · have h1 : ¬ rk n (p % 2 ^ n) < 0 := by unfold rk; rw [if_pos (by omega)]; omega
      refine ⟨p, ?_, hp, by rw [if_neg h1]⟩
      have hm : mag n (p % 2 ^ n) = p % 2 ^ n := by unfold mag; rw [if_neg c]
      rw [hm] at hmb ⊢
      have : p % 2 ^ (n - 1) = p % 2 ^ n % 2 ^ (n - 1) := by rw [e2, Nat.mul_comm, Nat.mod_mul_right_mod]
      rw [this, Nat.mod_eq_of_lt hmb.2]
  obtain ⟨r, hr, hrun⟩ := run_nat (L := n - 1) (x := x) (by omega) (by omega) 0
  rw [hx] at hr
  refine ⟨r, n - 1 - r - 1, _, x, hr, rfl, hx, fun k => ?_⟩
  obtain ⟨r', hr', hrun'⟩ := run_nat (L := n - 1) (x := x) (by omega) (by omega) (k + 5)
  have hrr : r' = r := by
    have a1 := hrun
    have : lead_Run.f (k + 5 + 1) (x : Int) ((n - 1 : Nat) : Int) = lead_Run.f (0 + 1) (x : Int) ((n - 1 : Nat) : Int) := by
      unfold lead_Run.f
      simp only [lead_Run.j0]
    rw [this, hrun] at hrun'
    simp only [Option.some.injEq, Prod.mk.injEq] at hrun'
    omega
  subst hrr
  unfold codec_Split.f
  rw [kind_yes hn hp, hk]
  simp only [Option.bind_some, Option.isNone_none, if_true]
  have hne : ((((1 : Nat) : Int)) != 1) = false := by decide
  rw [hne]
  simp only [codec_Split.j0]
  rw [if_neg (by simp), rank_yes hn]
  simp only [Option.bind_some]
  have hL : wrap64 ((n : Int) - 1) = ((n - 1 : Nat) : Int) := by unfold wrap64; omega
  have hsg : sgn n (p % 2 ^ n) = decide (rk n (p % 2 ^ n) < 0) := by
    unfold sgn rk
    by_cases c : 2 ^ (n - 1) ≤ p % 2 ^ n
    · rw [decide_eq_true c, if_neg (by omega)]; symm; simp only [decide_eq_true_eq]; omega
    · rw [decide_eq_false c, if_pos (by omega)]; symm; simp only [decide_eq_false_iff_not]; omega
  have key : ∀ ng : Bool, codec_Split.j1 (k + 8 - 1) (n : Int) (x : Int) ng false 0 0 0 0 0 0 = some (ng, decide (2 ^ (n - 1 - 1) ≤ x % 2 ^ (n - 1)), (r' : Int), reg r' (decide (2 ^ (n - 1 - 1) ≤ x % 2 ^ (n - 1))), ((min (n - 1 - r' - 1) 2 : Nat) : Int), ((x / 2 ^ (n - 1 - r' - 1 - min (n - 1 - r' - 1) 2) % 2 ^ (min (n - 1 - r' - 1) 2) * 2 ^ (2 - min (n - 1 - r' - 1) 2) : Nat) : Int), ((n - 1 - r' - 1 - min (n - 1 - r' - 1) 2 : Nat) : Int), ((x % 2 ^ (n - 1 - r' - 1 - min (n - 1 - r' - 1) 2) : Nat) : Int), none) := by
    intro ng
    rw [show k + 8 - 1 = k + 6 + 1 from rfl]
    simp only [codec_Split.j1]
    rw [hL, hrun']
    simp only [Option.bind_some]
    obtain ⟨g1, g2, _⟩ := hr
    have hw1 : wrap64 ((r' : Int) - 1) = (r' : Int) - 1 := wrap64_id (by omega) (by omega)
    have hw2 : wrap64 (-(r' : Int)) = -(r' : Int) := wrap64_id (by omega) (by omega)
    by_cases c : 2 ^ (n - 1 - 1) ≤ x % 2 ^ (n - 1)
    · rw [decide_eq_true c, if_pos rfl, hw1]
      exact split_j2 (by omega) hx64 g1 g2 rfl ng true _ (k + 5)
    · rw [decide_eq_false c, if_neg (by simp), hw2]
      exact split_j2 (by omega) hx64 g1 g2 rfl ng false _ (k + 5)
  rw [hsg]
  by_cases c : rk n (p % 2 ^ n) < 0
  · rw [if_pos c] at hxs ⊢
    rw [← hxs, decide_eq_true c, ← hx]
    exact key true
  · rw [if_neg c] at hxs ⊢
    rw [← hxs, decide_eq_false c, ← hx]
    exact key false
end Go.Proofs.Ytnlbfomlfhigcaa.M
namespace Go.Proofs.Ytnlbfomlfhigcaa.M
open Go.RowKit Go.Proofs.YtnlbfomlfhigcaaW.PrintWords Go.Proofs.YtnlbfomlfhigcaaW.PrintLast Go.Proofs.YtnlbfomlfhigcaaW.PrintMore Go.Proofs.Ytnlbfomlfhigcaa.Q
theorem decode_no {n : Int} (h : ¬ (n = 8 ∨ n = 16 ∨ n = 32 ∨ n = 64)) (x : Int) (k : Nat) : codec_Decode.f k n x = some (0, false, 0, 0, some 2) := by
  unfold codec_Decode.f
  rw [kind_no h]
  rfl
theorem knd_cases (n y : Nat) : (knd n y = 0 ∧ y = 0) ∨ knd n y = 1 ∨ (knd n y = 2 ∧ y = 2 ^ (n - 1)) := by
  unfold knd
  split
  · left; exact ⟨rfl, by assumption⟩
  · split
    · right; right; exact ⟨rfl, by assumption⟩
    · right; left; rfl
theorem decode_zero {n : Nat} (hn : Wd n) {p : Nat} (hp : p < 2 ^ 64) (hk : knd n (p % 2 ^ n) = 0) (k : Nat) : codec_Decode.f k (n : Int) (p : Int) = some (0, false, 0, 0, none) := by
  unfold codec_Decode.f
  rw [kind_yes hn hp, hk]
  rfl
theorem decode_nar {n : Nat} (hn : Wd n) {p : Nat} (hp : p < 2 ^ 64) (hk : knd n (p % 2 ^ n) = 2) (k : Nat) : codec_Decode.f k (n : Int) (p : Int) = some (2, false, 0, 0, none) := by
  unfold codec_Decode.f
  rw [kind_yes hn hp, hk]
  rfl
theorem decode_real {n : Nat} (hn : Wd n) {p : Nat} (hp : p < 2 ^ 64) (hk : knd n (p % 2 ^ n) = 1) : ∃ s : Int, ∃ f : Nat, Dec n (mag n (p % 2 ^ n)) s f ∧
    ∀ k, codec_Decode.f (k + 8) (n : Int) (p : Int) = some (1, sgn n (p % 2 ^ n), s, (f : Int), none) := by
  have hb := hn.bd
  have hmb := mag_bd hn (Nat.mod_lt p (pow_pos n)) hk
  obtain ⟨r, m, ones, x, hr, hm, hx, hs⟩ := split_real hn hp hk
  have hpd := parse_dec hn ones hmb.1 hmb.2 hr m (min m 2) (m - min m 2) _ _ hm rfl rfl rfl rfl
  have hmod : ∀ j, j ≤ n - 1 → x % 2 ^ j = mag n (p % 2 ^ n) % 2 ^ j := by
    intro j hj
    rw [← hx, show n - 1 = j + (n - 1 - j) by omega, Nat.pow_add, Nat.mod_mul_right_mod]
  have hfr : x % 2 ^ (m - min m 2) = mag n (p % 2 ^ n) % 2 ^ (m - min m 2) := hmod _ (by omega)
  have he : x / 2 ^ (m - min m 2) % 2 ^ (min m 2) = mag n (p % 2 ^ n) / 2 ^ (m - min m 2) % 2 ^ (min m 2) := by
    have := hmod (m - min m 2 + min m 2) (by omega)
    rw [Nat.pow_add] at this
    rw [← Nat.mod_mul_right_div_self, ← Nat.mod_mul_right_div_self, this]
  rw [← hfr, ← he] at hpd
  obtain ⟨hd, h61, h3, hf⟩ := hpd
  refine ⟨_, _, hd, fun k => ?_⟩
  unfold codec_Decode.f
  rw [kind_yes hn hp, hk]
  simp only [Option.bind_some, Option.isNone_none, if_true]
  rw [if_pos (by decide), hs k]
  simp only [Option.bind_some]
  generalize x / 2 ^ (m - min m 2) % 2 ^ (min m 2) * 2 ^ (2 - min m 2) = E at *
  generalize x % 2 ^ (m - min m 2) = fr at *
  generalize m - min m 2 = fb at *
  have hw : wrap64 (63 - (fb : Int)) = ((63 - fb : Nat) : Int) := by unfold wrap64; omega
  have hlt : fr * 2 ^ (63 - fb) < 2 ^ 63 := by
    have : fr * 2 ^ (63 - fb) < 2 ^ fb * 2 ^ (63 - fb) := Nat.mul_lt_mul_of_pos_right hf (pow_pos _)
    rw [← Nat.pow_add, show fb + (63 - fb) = 63 by omega] at this
    exact this
  rw [hw, if_pos (by omega), shl_nat fr (63 - fb) (by omega), Nat.mod_eq_of_lt (a := fr * 2 ^ (63 - fb)) (b := 2 ^ 64) (by omega)]
  have hor := or_add (2 ^ 63) (fr * 2 ^ (63 - fb)) 63 (by decide) hlt (by omega) (by decide)
  have e63 : (((2 ^ 63 : Nat)) : Int) = 9223372036854775808 := by decide
  rw [e63] at hor
  rw [hor]
  have hreg : -64 ≤ reg r ones ∧ reg r ones ≤ 64 := by
    obtain ⟨g1, g2, _⟩ := hr
    unfold reg
    split <;> omega
  have hsc : wrap64 (wrap64 (4 * reg r ones) + (E : Int)) = 4 * reg r ones + (E : Int) := by
    rw [wrap64_id (n := 4 * reg r ones) (by omega) (by omega), wrap64_id (by omega) (by omega)]
  rw [hsc]
  rfl
end Go.Proofs.Ytnlbfomlfhigcaa.M
namespace Go.Proofs.Ytnlbfomlfhigcaa.M
open Go.RowKit Go.Proofs.YtnlbfomlfhigcaaW.PrintWords Go.Proofs.YtnlbfomlfhigcaaW.PrintLast Go.Proofs.YtnlbfomlfhigcaaW.PrintMore Go.Proofs.Ytnlbfomlfhigcaa.Q
theorem rkind {n : Nat} (hn : Wd n) (p : Nat) (k : Nat) : vernierref05_Kind.f (k + 66) (n : Int) (p : Int) = some (((knd n (p % 2 ^ n) : Nat) : Int), 0) := by
  have hb := hn.bd
  unfold vernierref05_Kind.f
  rw [rfold5_yes hn, Option.bind_some]
  show (if (0 : Int) = 0 then (if ((p % 2 ^ n : Nat) : Int) = 0 then some (0, 0) else _) else _) = _
  rw [if_pos rfl]
  have hw : wrap64 ((n : Int) - 1) = ((n - 1 : Nat) : Int) := by unfold wrap64; omega
  rw [hw, power_val (by omega), Option.bind_some]
  show (if ((p % 2 ^ n : Nat) : Int) = 0 then some (0, 0) else (if ((p % 2 ^ n : Nat) : Int) = ((2 ^ (n - 1) : Nat) : Int) then some (2, 0) else some (1, 0))) = _
  unfold knd
  by_cases c : p % 2 ^ n = 0
  · rw [if_pos (by omega), if_pos c]
    rfl
  · rw [if_neg (by omega), if_neg c]
    by_cases c2 : p % 2 ^ n = 2 ^ (n - 1)
    · rw [if_pos (congrArg Nat.cast c2), if_pos c2]
      rfl
    · rw [if_neg (fun h => c2 (by omega)), if_neg c2]
      rfl
theorem first_bit {b : ByteArray} {n v : Nat} (h : IsBits b n v) (hn : 1 ≤ n) : bt b 0 = if 2 ^ (n - 1) ≤ v then 49 else 48 := by
  have h0 := h.2.2 0 (by omega)
  have hv := h.2.1
  rw [show 2 ^ n = 2 * 2 ^ (n - 1) by rw [← Nat.pow_succ']; exact congrArg (2 ^ ·) (by omega)] at hv
  have hp := pow_pos (n - 1)
  unfold bitc at h0
  rw [Nat.sub_zero] at h0
  have e : bt b 0 = bt b ((0 : Nat) : Int) := rfl
  rw [e, h0]
  by_cases c : 2 ^ (n - 1) ≤ v
  · rw [if_pos c]
    have : v / 2 ^ (n - 1) = 1 := by
      rw [Nat.div_eq_iff (by omega)]
      omega
    rw [this]
    rfl
  · rw [if_neg c, Nat.div_eq_of_lt (by omega)]
    rfl
theorem rstring {n : Nat} (hn : Wd n) {p : Nat} (hp : p < 2 ^ 64) (hk : knd n (p % 2 ^ n) = 1) (k : Nat) : ∃ b, vernierref06_String.f (k + 66) (n : Int) (p : Int) = some b ∧ IsBits b (n - 1) (mag n (p % 2 ^ n)) := by
  have hb := hn.bd
  have e2 := two_half hn
  have hp1 := pow_pos (n - 1)
  have hy : p % 2 ^ n < 2 ^ n := Nat.mod_lt _ (by omega)
  have hk' : p % 2 ^ n ≠ 0 ∧ p % 2 ^ n ≠ 2 ^ (n - 1) := by
    unfold knd at hk
    refine ⟨fun c => ?_, fun c => ?_⟩
    · rw [if_pos c] at hk
      omega
    · rw [if_neg (by omega), if_pos c] at hk
      omega
  obtain ⟨t, ht, hB⟩ := text_bits p hb.2 k
  unfold vernierref06_String.f
  rw [ht, Option.bind_some, if_pos (by rw [hB.1]; omega), first_bit hB (by omega)]
  by_cases c : 2 ^ (n - 1) ≤ p % 2 ^ n
  · rw [if_pos c, if_pos rfl]
    have hneg : IntKind.u64.wrap (-(p : Int)) = ((2 ^ 64 - p : Nat) : Int) := by
      have : p ≠ 0 := by
        rintro rfl
        simp at hk'
      rw [p64] at hp ⊢
      rw [u64w]
      omega
    obtain ⟨t', ht', hB'⟩ := text_bits (2 ^ 64 - p) hb.2 k
    have hm : (2 ^ 64 - p) % 2 ^ n = 2 ^ n - p % 2 ^ n := by
      have hd : 2 ^ 64 = 2 ^ (64 - n) * 2 ^ n := by rw [← Nat.pow_add]; exact congrArg (2 ^ ·) (by omega)
      have hdm := Nat.div_add_mod p (2 ^ n)
      have hlt : p / 2 ^ n < 2 ^ (64 - n) := by
        rw [Nat.div_lt_iff_lt_mul (by omega), ← hd]
        exact hp
      rw [hd]
      generalize 2 ^ (64 - n) = A at *
      generalize p / 2 ^ n = B at *
      generalize 2 ^ n = N at *
      generalize p % N = y at *
      have : A * N - p = (A - B - 1) * N + (N - y) := by
        obtain ⟨C, rfl⟩ : ∃ C, A = B + C + 1 := ⟨A - B - 1, by omega⟩
        rw [show B + C + 1 - B - 1 = C by omega, Nat.add_mul, Nat.add_mul, Nat.one_mul, Nat.mul_comm B N]
        omega
      rw [this, Nat.add_comm, Nat.add_mul_mod_self_right, Nat.mod_eq_of_lt (by omega)]
    rw [hm] at hB'
    rw [hneg, ht', Option.bind_some, if_pos (by rw [hB'.1]; omega)]
    refine ⟨_, rfl, ?_⟩
    have hx := hB'.extract (i := 1) (j := n) (by omega) (by omega)
    rw [Nat.sub_self, Nat.pow_zero, Nat.div_one, Nat.mod_eq_of_lt (by omega)] at hx
    unfold mag
    rw [if_pos c, hB'.1]
    exact hx
  · rw [if_neg c, if_neg (by decide), if_pos (by rw [hB.1]; omega)]
    refine ⟨_, rfl, ?_⟩
    have hx := hB.extract (i := 1) (j := n) (by omega) (by omega)
    rw [Nat.sub_self, Nat.pow_zero, Nat.div_one, Nat.mod_eq_of_lt (by omega)] at hx
    unfold mag
    rw [if_neg c, hB.1]
    exact hx
theorem run_l0 {b : ByteArray} {L v : Nat} (h : IsBits b L v) (h1 : 1 ≤ L) (h2 : L ≤ 64) (k : Nat) : ∀ d j : Nat, j + d = L → (∀ i, i < j → bitc L v i = bitc L v 0) →
    ∃ r : Nat, vernierref06_run.l0 (k + d + 1) b (j : Int) = some (r : Int) ∧ r ≤ L ∧ (∀ i, i < r → bitc L v i = bitc L v 0) ∧ (r = L ∨ (r < L ∧ bitc L v r ≠ bitc L v 0)) := by
  obtain ⟨g1, g2, g3⟩ := h
  intro d
  induction d with
  | zero =>
    intro j hj hall
    refine ⟨j, ?_, by omega, hall, Or.inl (by omega)⟩
    rw [vernierref06_run.l0, if_neg (by omega)]
  | succ d ih =>
    intro j hj hall
    rw [show k + (d + 1) + 1 = (k + d + 1) + 1 by omega, vernierref06_run.l0, if_pos (by omega), if_pos (by omega), if_pos (by omega), g3 j (by omega), show bt b 0 = ((bitc L v 0 : Nat) : Int) from g3 0 (by omega)]
    by_cases c : bitc L v j = bitc L v 0
    · rw [if_pos (by omega)]
      have hw : wrap64 ((j : Int) + 1) = ((j + 1 : Nat) : Int) := by unfold wrap64; omega
      rw [hw]
      refine ih (j + 1) (by omega) (fun i hi => ?_)
      by_cases e : i = j
      · subst e
        exact c
      · exact hall i (by omega)
    · rw [if_neg (by omega)]
      exact ⟨j, rfl, by omega, hall, Or.inr ⟨by omega, c⟩⟩
theorem bits_pre {L v r c : Nat} (hv : v < 2 ^ L) (hr : r ≤ L) (hc : c = 0 ∨ c = 1) (h : ∀ i, i < r → v / 2 ^ (L - 1 - i) % 2 = c) : v / 2 ^ (L - r) = c * (2 ^ r - 1) := by
  induction r with
  | zero =>
    rw [Nat.sub_zero, Nat.div_eq_of_lt hv]
    simp
  | succ r ih =>
    have h1 := ih (by omega) (fun i hi => h i (by omega))
    have h2 := h r (by omega)
    have e : v / 2 ^ (L - r) = v / 2 ^ (L - 1 - r) / 2 := by
      rw [Nat.div_div_eq_div_mul, ← Nat.pow_succ]
      exact congrArg (fun z => v / 2 ^ z) (by omega)
    rw [e] at h1
    rw [show L - (r + 1) = L - 1 - r by omega, Nat.pow_succ]
    have := pow_pos r
    generalize v / 2 ^ (L - 1 - r) = w at *
    generalize 2 ^ r = a at *
    rcases hc with rfl | rfl <;> omega
theorem runs_bits {L v r : Nat} (h1 : 1 ≤ L) (hv : v < 2 ^ L) (hr : r ≤ L) (h : ∀ i, i < r → bitc L v i = bitc L v 0) (h3 : r = L ∨ (r < L ∧ bitc L v r ≠ bitc L v 0)) : Runs L v r (decide (2 ^ (L - 1) ≤ v)) := by
  have hr1 : 1 ≤ r := by
    rcases h3 with h3 | ⟨_, h3⟩
    · omega
    · by_cases c : r = 0
      · subst c
        exact absurd rfl h3
      · omega
  have e2 : 2 ^ L = 2 * 2 ^ (L - 1) := by rw [← Nat.pow_succ']; exact congrArg (2 ^ ·) (by omega)
  have hp := pow_pos (L - 1)
  have h0 : v / 2 ^ (L - 1 - 0) % 2 = if 2 ^ (L - 1) ≤ v then 1 else 0 := by
    rw [Nat.sub_zero]
    by_cases c : 2 ^ (L - 1) ≤ v
    · rw [if_pos c]
      have : v / 2 ^ (L - 1) = 1 := by
        rw [Nat.div_eq_iff (by omega)]
        omega
      omega
    · rw [if_neg c, Nat.div_eq_of_lt (by omega)]
  unfold bitc at h h3
  have h' : ∀ i, i < r → v / 2 ^ (L - 1 - i) % 2 = if 2 ^ (L - 1) ≤ v then 1 else 0 := fun i hi => by
    have := h i hi
    omega
  have hq := bits_pre hv hr (by by_cases c : 2 ^ (L - 1) ≤ v <;> simp [c]) h'
  have hn : r = L ∨ (r < L ∧ v / 2 ^ (L - r - 1) = 2 * (v / 2 ^ (L - r)) + (1 - if 2 ^ (L - 1) ≤ v then 1 else 0)) := by
    rcases h3 with h3 | ⟨h3, h4⟩
    · exact Or.inl h3
    · refine Or.inr ⟨h3, ?_⟩
      have e : v / 2 ^ (L - r) = v / 2 ^ (L - r - 1) / 2 := by
        rw [Nat.div_div_eq_div_mul, ← Nat.pow_succ]
        exact congrArg (fun z => v / 2 ^ z) (by omega)
      rw [show L - 1 - r = L - r - 1 by omega] at h4
      rw [e]
      by_cases c : 2 ^ (L - 1) ≤ v
      · rw [if_pos c] at h0 ⊢
        omega
      · rw [if_neg c] at h0 ⊢
        omega
  have hd := Nat.div_add_mod v (2 ^ (L - r))
  have hl := Nat.mod_lt v (pow_pos (L - r))
  have eA : 2 ^ L = 2 ^ r * 2 ^ (L - r) := by rw [← Nat.pow_add]; exact congrArg (2 ^ ·) (by omega)
  refine ⟨hr1, hr, ?_⟩
  by_cases c : 2 ^ (L - 1) ≤ v
  · rw [if_pos (by simpa using c)]
    rw [if_pos c, Nat.one_mul] at hq
    have pr := pow_pos r
    refine ⟨?_, ?_⟩
    · rw [hq] at hd
      rw [eA]
      obtain ⟨a, ha⟩ : ∃ a, 2 ^ r = a + 1 := ⟨2 ^ r - 1, by omega⟩
      rw [ha, Nat.add_sub_cancel, Nat.mul_comm] at hd
      rw [ha, Nat.add_mul, Nat.one_mul]
      omega
    · rcases hn with hn | ⟨hn1, hn⟩
      · exact Or.inl hn
      · right
        rw [if_pos c, hq] at hn
        have hd2 := Nat.div_add_mod v (2 ^ (L - r - 1))
        have hl2 := Nat.mod_lt v (pow_pos (L - r - 1))
        have eB : 2 ^ L = (2 * 2 ^ r) * 2 ^ (L - r - 1) := by rw [← Nat.pow_succ', ← Nat.pow_add]; exact congrArg (2 ^ ·) (by omega)
        rw [hn] at hd2
        rw [eB]
        obtain ⟨a, ha⟩ : ∃ a, 2 ^ r = a + 1 := ⟨2 ^ r - 1, by omega⟩
        rw [ha] at hd2 ⊢
        rw [show 2 * (a + 1 - 1) + (1 - 1) = 2 * a by omega, Nat.mul_comm] at hd2
        rw [show 2 * (a + 1) = 2 * a + 2 by omega, Nat.add_mul]
        generalize 2 * a * 2 ^ (L - r - 1) = z at *
        omega
  · rw [if_neg (by simpa using c)]
    rw [if_neg c, Nat.zero_mul] at hq
    rw [hq, Nat.mul_zero] at hd
    refine ⟨by omega, ?_⟩
    rcases hn with hn | ⟨hn1, hn⟩
    · exact Or.inl hn
    · right
      rw [if_neg c, hq] at hn
      have hd2 := Nat.div_add_mod v (2 ^ (L - r - 1))
      rw [hn] at hd2
      omega
theorem rrun {b : ByteArray} {L v : Nat} (h : IsBits b L v) (h1 : 1 ≤ L) (h2 : L ≤ 64) (k : Nat) : ∃ r : Nat, vernierref06_run.f (k + 66) b = some (r : Int) ∧ Runs L v r (decide (2 ^ (L - 1) ≤ v)) := by
  obtain ⟨r, e, a1, a2, a3⟩ := run_l0 h h1 h2 (k + 65 - L) L 0 (by omega) (fun i hi => absurd hi (Nat.not_lt_zero _))
  rw [show k + 65 - L + L + 1 = k + 66 by omega] at e
  exact ⟨r, e, runs_bits h1 h.2.1 a1 a2 a3⟩
end Go.Proofs.Ytnlbfomlfhigcaa.M
namespace Go.Proofs.Ytnlbfomlfhigcaa.M
open Go.RowKit Go.Proofs.YtnlbfomlfhigcaaW.PrintWords Go.Proofs.YtnlbfomlfhigcaaW.PrintLast Go.Proofs.YtnlbfomlfhigcaaW.PrintMore Go.Proofs.Ytnlbfomlfhigcaa.Q
theorem pow_split {a b : Nat} (h : a ≤ b) : 2 ^ b = 2 ^ a * 2 ^ (b - a) := by rw [← Nat.pow_add]; exact congrArg (2 ^ ·) (by omega)
theorem shl_lo {h l j : Nat} (hl : l < 2 ^ 64) (hj : j < 64) :
    (h * 2 ^ 64 + l) * 2 ^ j % 2 ^ 128 / 2 ^ 64 = h * 2 ^ j % 2 ^ 64 + l / 2 ^ (64 - j) ∧ (h * 2 ^ 64 + l) * 2 ^ j % 2 ^ 64 = l * 2 ^ j % 2 ^ 64 := by
  have e1 : (h * 2 ^ 64 + l) * 2 ^ j = l * 2 ^ j + h * 2 ^ j * 2 ^ 64 := by rw [Nat.add_mul, Nat.mul_right_comm]; omega
  constructor
  · rw [e1, show (2 : Nat) ^ 128 = 2 ^ 64 * 2 ^ 64 from rfl, Nat.mod_mul_right_div_self, Nat.add_mul_div_right _ _ (by decide)]
    have e2 : l * 2 ^ j / 2 ^ 64 = l / 2 ^ (64 - j) := by
      rw [pow_split (show j ≤ 64 by omega), Nat.mul_comm, Nat.mul_div_mul_left _ _ (pow_pos j)]
    rw [e2]
    have h1 : l / 2 ^ (64 - j) < 2 ^ j := by
      rw [Nat.div_lt_iff_lt_mul (pow_pos _), Nat.mul_comm, ← Nat.pow_add, show 64 - j + j = 64 by omega]
      exact hl
    have h2 : h * 2 ^ j % 2 ^ 64 = h % 2 ^ (64 - j) * 2 ^ j := by
      rw [pow_split (show j ≤ 64 by omega), Nat.mul_comm (2 ^ j), Nat.mul_mod_mul_right]
    have h3 : h % 2 ^ (64 - j) < 2 ^ (64 - j) := Nat.mod_lt _ (pow_pos _)
    have h4 : (h % 2 ^ (64 - j) + 1) * 2 ^ j ≤ 2 ^ (64 - j) * 2 ^ j := Nat.mul_le_mul_right _ h3
    rw [← Nat.pow_add, show 64 - j + j = 64 by omega, Nat.add_mul, Nat.one_mul, ← h2] at h4
    rw [Nat.add_mod, Nat.mod_eq_of_lt (show l / 2 ^ (64 - j) < 2 ^ 64 by omega), Nat.mod_eq_of_lt (by omega)]
    omega
  · rw [e1, Nat.add_mul_mod_self_right]
theorem shl_hi {h l j : Nat} (hj : 64 ≤ j) : (h * 2 ^ 64 + l) * 2 ^ j % 2 ^ 128 / 2 ^ 64 = l * 2 ^ (j - 64) % 2 ^ 64 ∧ (h * 2 ^ 64 + l) * 2 ^ j % 2 ^ 64 = 0 := by
  have e : 2 ^ j = 2 ^ 64 * 2 ^ (j - 64) := pow_split hj
  have e1 : (h * 2 ^ 64 + l) * 2 ^ j = (l * 2 ^ (j - 64) + (h * 2 ^ (j - 64)) * 2 ^ 64) * 2 ^ 64 := by
    rw [e, Nat.add_mul, Nat.add_mul]
    have a1 : h * 2 ^ 64 * (2 ^ 64 * 2 ^ (j - 64)) = h * 2 ^ (j - 64) * 2 ^ 64 * 2 ^ 64 := by
      rw [Nat.mul_comm (2 ^ 64) (2 ^ (j - 64)), ← Nat.mul_assoc, Nat.mul_right_comm h]
    have a2 : l * (2 ^ 64 * 2 ^ (j - 64)) = l * 2 ^ (j - 64) * 2 ^ 64 := by rw [Nat.mul_comm (2 ^ 64), Nat.mul_assoc]
    rw [a1, a2]
    omega
  constructor
  · rw [e1, show (2 : Nat) ^ 128 = 2 ^ 64 * 2 ^ 64 from rfl, Nat.mod_mul_right_div_self, Nat.mul_div_cancel _ (by decide), Nat.add_mul_mod_self_right]
  · rw [e1, Nat.mul_mod_left]
theorem word_lt {x j : Nat} (h : x < 2 ^ 64) : x / 2 ^ j < 2 ^ 64 := Nat.lt_of_le_of_lt (Nat.div_le_self _ _) h
theorem shl_tw {h l j : Nat} (_ : h < 2 ^ 64) (hl : l < 2 ^ 64) (hj : j ≤ 128) : twin_shl.f (h : Int) (l : Int) (j : Int) =
    some ((((h * 2 ^ 64 + l) * 2 ^ j % 2 ^ 128 / 2 ^ 64 : Nat) : Int), (((h * 2 ^ 64 + l) * 2 ^ j % 2 ^ 64 : Nat) : Int)) := by
  unfold twin_shl.f
  by_cases c : 64 ≤ j
  · have hw : wrap64 ((j : Int) - 64) = ((j - 64 : Nat) : Int) := by unfold wrap64; omega
    rw [if_pos (by omega), hw, if_pos (by omega), shl_nat l (j - 64) (by omega), (shl_hi c).1, (shl_hi c).2]
    rfl
  · have hw : wrap64 (64 - (j : Int)) = ((64 - j : Nat) : Int) := by unfold wrap64; omega
    have hs := shl_lo (h := h) hl (show j < 64 by omega)
    rw [if_neg (by omega), if_pos (by omega), hw, if_pos (by omega), shl_nat h j (by omega), shl_nat l j (by omega), shr_nat l (64 - j) (by omega), hs.1, hs.2]
    have h1 : l / 2 ^ (64 - j) < 2 ^ j := by
      rw [Nat.div_lt_iff_lt_mul (pow_pos _), Nat.mul_comm, ← Nat.pow_add, show 64 - j + j = 64 by omega]
      exact hl
    have h2 : h * 2 ^ j % 2 ^ 64 % 2 ^ j = 0 := by
      rw [pow_split (show j ≤ 64 by omega), Nat.mod_mul_right_mod, Nat.mul_mod_left]
    rw [or_add _ _ j (Nat.mod_lt _ (by decide)) h1 (by omega) h2]
theorem shr_lo {h l j : Nat} (hl : l < 2 ^ 64) (hj : j < 64) :
    (h * 2 ^ 64 + l) / 2 ^ j / 2 ^ 64 = h / 2 ^ j ∧ (h * 2 ^ 64 + l) / 2 ^ j % 2 ^ 64 = h * 2 ^ (64 - j) % 2 ^ 64 + l / 2 ^ j := by
  have e1 : (h * 2 ^ 64 + l) / 2 ^ j = h * 2 ^ (64 - j) + l / 2 ^ j := by
    rw [pow_split (show j ≤ 64 by omega), Nat.mul_comm (2 ^ j), ← Nat.mul_assoc, Nat.add_comm, Nat.add_mul_div_right _ _ (pow_pos j), Nat.add_comm]
  constructor
  · rw [Nat.div_div_eq_div_mul, Nat.mul_comm (2 ^ j), ← Nat.div_div_eq_div_mul]
    congr 1
    omega
  · rw [e1]
    have h1 : l / 2 ^ j < 2 ^ (64 - j) := by
      rw [Nat.div_lt_iff_lt_mul (pow_pos _), ← Nat.pow_add, show 64 - j + j = 64 by omega]
      exact hl
    have h2 : h * 2 ^ (64 - j) % 2 ^ 64 = h % 2 ^ j * 2 ^ (64 - j) := by
      rw [pow_split (show j ≤ 64 by omega), Nat.mul_mod_mul_right]
    have h3 : h % 2 ^ j < 2 ^ j := Nat.mod_lt _ (pow_pos _)
    have h4 : (h % 2 ^ j + 1) * 2 ^ (64 - j) ≤ 2 ^ j * 2 ^ (64 - j) := Nat.mul_le_mul_right _ h3
    rw [← Nat.pow_add, show j + (64 - j) = 64 by omega, Nat.add_mul, Nat.one_mul, ← h2] at h4
    rw [Nat.add_mod, Nat.mod_eq_of_lt (show l / 2 ^ j < 2 ^ 64 from word_lt hl), Nat.mod_eq_of_lt (by omega)]
theorem shr_tw {h l j : Nat} (_ : h < 2 ^ 64) (hl : l < 2 ^ 64) (hj : j < 64) : twin_shr.f (h : Int) (l : Int) (j : Int) =
    some ((((h * 2 ^ 64 + l) / 2 ^ j / 2 ^ 64 : Nat) : Int), (((h * 2 ^ 64 + l) / 2 ^ j % 2 ^ 64 : Nat) : Int)) := by
  unfold twin_shr.f
  have hw : wrap64 (64 - (j : Int)) = ((64 - j : Nat) : Int) := by unfold wrap64; omega
  have hs := shr_lo (h := h) hl hj
  rw [if_neg (by omega), if_pos (by omega), hw, if_pos (by omega), shr_nat h j (by omega), shr_nat l j (by omega), shl_nat h (64 - j) (by omega), hs.1, hs.2]
  have h1 : l / 2 ^ j < 2 ^ (64 - j) := by
    rw [Nat.div_lt_iff_lt_mul (pow_pos _), ← Nat.pow_add, show 64 - j + j = 64 by omega]
    exact hl
  have h2 : h * 2 ^ (64 - j) % 2 ^ 64 % 2 ^ (64 - j) = 0 := by
    rw [pow_split (show 64 - j ≤ 64 by omega), Nat.mod_mul_right_mod, Nat.mul_mod_left]
  have h3 := or_add (h * 2 ^ (64 - j) % 2 ^ 64) (l / 2 ^ j) (64 - j) (Nat.mod_lt _ (by decide)) h1 (by omega) h2
  rw [or_nat _ _ (Nat.mod_lt _ (by decide)) (word_lt hl)] at h3
  rw [or_nat _ _ (word_lt hl) (Nat.mod_lt _ (by decide)), Nat.or_comm, h3]
theorem len_tw {h l : Nat} (hh : h < 2 ^ 64) (hl : l < 2 ^ 64) : ∃ b : Nat, b ≤ 128 ∧ twin_Len.f (h : Int) (l : Int) = some (b : Int) ∧
    ((h * 2 ^ 64 + l = 0 ∧ b = 0) ∨ (1 ≤ b ∧ 2 ^ (b - 1) ≤ h * 2 ^ 64 + l ∧ h * 2 ^ 64 + l < 2 ^ b)) := by
  unfold twin_Len.f bits_Len64.f
  rw [p64] at hh hl
  by_cases c : h = 0
  · subst c
    rw [if_neg (by omega), if_pos (by omega), Int.toNat_natCast]
    simp only [Option.bind_some]
    refine ⟨Lib.bitLen l, by have := Lib.bitLen_le l 64 (by omega) (by rw [p64]; omega); omega, rfl, ?_⟩
    by_cases c2 : l = 0
    · subst c2; left; exact ⟨rfl, bitLen_zero⟩
    · right
      obtain ⟨b1, b2, b3, b4⟩ := bitLen_bd (z := l) (by rw [p64]; omega) c2
      rw [Nat.zero_mul, Nat.zero_add]
      exact ⟨b1, b3, b4⟩
  · rw [if_pos (by omega), if_pos (by omega), Int.toNat_natCast]
    simp only [Option.bind_some]
    obtain ⟨b1, b2, b3, b4⟩ := bitLen_bd (z := h) (by rw [p64]; omega) c
    refine ⟨64 + Lib.bitLen h, by omega, ?_, .inr ⟨by omega, ?_, ?_⟩⟩
    · congr 1; unfold wrap64; omega
    · rw [show 64 + Lib.bitLen h - 1 = (Lib.bitLen h - 1) + 64 by omega, Nat.pow_add]
      generalize 2 ^ (Lib.bitLen h - 1) = q at *
      omega
    · rw [Nat.pow_add]
      generalize 2 ^ Lib.bitLen h = q at *
      omega
theorem Shl_tw {h l j : Nat} (hh : h < 2 ^ 64) (hl : l < 2 ^ 64) (hj : j ≤ 128) : ∃ b, twin_Shl.f (h : Int) (l : Int) (j : Int) =
    some ((((h * 2 ^ 64 + l) * 2 ^ j % 2 ^ 128 / 2 ^ 64 : Nat) : Int), (((h * 2 ^ 64 + l) * 2 ^ j % 2 ^ 64 : Nat) : Int), b, none) := by
  unfold twin_Shl.f
  have hm : mn (j : Int) 128 = (j : Int) := by unfold mn; rw [if_neg (by omega)]
  obtain ⟨b, _, hb, _⟩ := len_tw hh hl
  rw [if_neg (by omega), hm, shl_tw hh hl hj, hb]
  exact ⟨_, rfl⟩
theorem Shr_tw {h l j : Nat} (hh : h < 2 ^ 64) (hl : l < 2 ^ 64) (hj : j < 64) : twin_Shr.f (h : Int) (l : Int) (j : Int) =
    some ((((h * 2 ^ 64 + l) / 2 ^ j / 2 ^ 64 : Nat) : Int), (((h * 2 ^ 64 + l) / 2 ^ j % 2 ^ 64 : Nat) : Int), decide ((h * 2 ^ 64 + l) % 2 ^ j ≠ 0), none) := by
  unfold twin_Shr.f
  have hm : mn (j : Int) 128 = (j : Int) := by unfold mn; rw [if_neg (by omega)]
  have hW : h * 2 ^ 64 + l < 2 ^ 128 := by omega
  rw [if_neg (by omega), hm, shr_tw hh hl hj]
  simp only [Option.bind_some]
  generalize hWe : h * 2 ^ 64 + l = W at *
  have h1 : W / 2 ^ j < 2 ^ 128 := Nat.lt_of_le_of_lt (Nat.div_le_self _ _) hW
  rw [shl_tw (j := j) (by omega) (Nat.mod_lt _ (by decide)) (by omega)]
  simp only [Option.bind_some]
  have hd : W / 2 ^ j / 2 ^ 64 * 2 ^ 64 + W / 2 ^ j % 2 ^ 64 = W / 2 ^ j := by rw [Nat.mul_comm]; exact Nat.div_add_mod _ _
  rw [hd]
  have hdm := Nat.div_add_mod W (2 ^ j)
  rw [Nat.mul_comm] at hdm
  generalize W / 2 ^ j * 2 ^ j = X at *
  have hX : X % 2 ^ 128 = X := Nat.mod_eq_of_lt (by omega)
  rw [hX]
  congr 4
  by_cases c : W % 2 ^ j = 0
  · have e : X = h * 2 ^ 64 + l := by omega
    rw [decide_eq_false (by omega)]
    have a1 : X / 2 ^ 64 = h := by omega
    have a2 : X % 2 ^ 64 = l := by omega
    rw [a1, a2]
    simp
  · rw [decide_eq_true c]
    have : ¬ (X / 2 ^ 64 = h ∧ X % 2 ^ 64 = l) := by omega
    by_cases d : X / 2 ^ 64 = h
    · have : ((X % 2 ^ 64 : Nat) : Int) ≠ (l : Int) := by omega
      rw [beq_eq_false_iff_ne.mpr this]
      simp
    · have : ((X / 2 ^ 64 : Nat) : Int) ≠ (h : Int) := by omega
      rw [beq_eq_false_iff_ne.mpr this]
      simp
end Go.Proofs.Ytnlbfomlfhigcaa.M
