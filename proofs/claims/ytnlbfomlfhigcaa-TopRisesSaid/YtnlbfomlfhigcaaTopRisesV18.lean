/- Walks and plain laws that the claim stands on: each theorem named calls says that a call of a function returns what its f computes; the others are plain laws of these f, and the words that the walks use. -/
import Derived.Test.YtnlbfomlfhigcaaTopRisesV17
import Derived.Test.YtnlbfomlfhigcaaTopRisesV14
namespace Go.Proofs.Ytnlbfomlfhigcaa.M
open Go.RowKit Go.Proofs.YtnlbfomlfhigcaaW.PrintWords Go.Proofs.YtnlbfomlfhigcaaW.PrintLast Go.Proofs.YtnlbfomlfhigcaaW.PrintMore Go.Proofs.Ytnlbfomlfhigcaa.Q
structure Half (U u v1 v0 q r : Nat) : Prop where
  e : U = q * v1 + r
  hu : u < 2 ^ 32
  h0 : v0 < 2 ^ 32
  h1 : 2 ^ 31 ≤ v1
  h2 : v1 < 2 ^ 32
  lt : U < v1 * 2 ^ 32 + v0
  ge : (U * 2 ^ 32 + u) / (v1 * 2 ^ 32 + v0) ≤ q
theorem Half.top {U u v1 v0 q r : Nat} (h : Half U u v1 v0 q r) : q ≤ 2 ^ 32 + 1 := by
  refine Nat.le_of_not_lt fun hq => ?_
  have h1 := Nat.mul_le_mul_right v1 (show 2 ^ 32 + 2 ≤ q by omega)
  have := h.e
  have := h.lt
  have := h.h1
  have := h.h0
  rw [Nat.add_mul] at h1
  omega
theorem Half.true_lt {U u v1 v0 q r : Nat} (h : Half U u v1 v0 q r) : (U * 2 ^ 32 + u) / (v1 * 2 ^ 32 + v0) < 2 ^ 32 := by
  have h1 := h.h1
  have h2 := h.lt
  have h3 := h.hu
  rw [Nat.div_lt_iff_lt_mul (by omega)]
  have := Nat.mul_le_mul_left (2 ^ 32) (show U + 1 ≤ v1 * 2 ^ 32 + v0 by omega)
  rw [Nat.mul_add, Nat.mul_one] at this
  omega
theorem Half.prod {U u v1 v0 q r : Nat} (h : Half U u v1 v0 q r) : q * (v1 * 2 ^ 32 + v0) + r * 2 ^ 32 = U * 2 ^ 32 + q * v0 := by
  rw [h.e, Nat.mul_add, Nat.add_mul, ← Nat.mul_assoc]
  omega
theorem Half.over {U u v1 v0 q r : Nat} (h : Half U u v1 v0 q r) (hc : 2 ^ 32 ≤ q ∨ q * v0 > 2 ^ 32 * r + u) : (U * 2 ^ 32 + u) / (v1 * 2 ^ 32 + v0) < q := by
  rcases hc with hc | hc
  · exact Nat.lt_of_lt_of_le h.true_lt hc
  · have h1 := h.h1
    rw [Nat.div_lt_iff_lt_mul (by omega)]
    have := h.prod
    omega
theorem Half.stop {U u v1 v0 q r : Nat} (h : Half U u v1 v0 q r) (hc : q * v0 ≤ 2 ^ 32 * r + u) : q = (U * 2 ^ 32 + u) / (v1 * 2 ^ 32 + v0) := by
  refine Nat.le_antisymm ?_ h.ge
  have h1 := h.h1
  rw [Nat.le_div_iff_mul_le (by omega)]
  have := h.prod
  omega
theorem Half.step {U u v1 v0 q r : Nat} (h : Half U u v1 v0 q r) (hc : 2 ^ 32 ≤ q ∨ q * v0 > 2 ^ 32 * r + u) : Half U u v1 v0 (q - 1) (r + v1) := by
  have ho := h.over hc
  have hq : 1 ≤ q := Nat.lt_of_le_of_lt (Nat.zero_le _) ho
  refine ⟨?_, h.hu, h.h0, h.h1, h.h2, h.lt, Nat.le_sub_one_of_lt ho⟩
  have e := h.e
  have : q * v1 = (q - 1) * v1 + v1 := by
    rw [← Nat.succ_mul]
    exact congrArg (· * v1) (by omega)
  omega
theorem Half.far {U u v1 v0 q r : Nat} (h : Half U u v1 v0 q r) (hq : q ≤ 2 ^ 32) (hr : 2 ^ 32 ≤ r) : q = (U * 2 ^ 32 + u) / (v1 * 2 ^ 32 + v0) := by
  refine h.stop ?_
  have h0 := h.h0
  have h1 : q * v0 ≤ 2 ^ 32 * (2 ^ 32 - 1) := Nat.mul_le_mul hq (by omega)
  omega
theorem half_begin {U u v1 v0 : Nat} (hu : u < 2 ^ 32) (h0 : v0 < 2 ^ 32) (h1 : 2 ^ 31 ≤ v1) (h2 : v1 < 2 ^ 32) (hlt : U < v1 * 2 ^ 32 + v0) : Half U u v1 v0 (U / v1) (U % v1) := by
  refine ⟨by rw [Nat.mul_comm]; exact (Nat.div_add_mod U v1).symm, hu, h0, h1, h2, hlt, ?_⟩
  rw [Nat.le_div_iff_mul_le (by omega)]
  have hp : 0 < v1 * 2 ^ 32 + v0 := by omega
  have e := Nat.div_mul_le_self (U * 2 ^ 32 + u) (v1 * 2 ^ 32 + v0)
  generalize (U * 2 ^ 32 + u) / (v1 * 2 ^ 32 + v0) = T at *
  rw [Nat.mul_add, ← Nat.mul_assoc] at e
  omega
theorem half_words {q v0 r u : Nat} (h0 : v0 < 2 ^ 32) (hq : q < 2 ^ 32) (hr : r < 2 ^ 32) (hu : u < 2 ^ 32) :
    decide (IntKind.u64.wrap ((q : Int) * (v0 : Int)) > IntKind.u64.wrap (IntKind.u64.wrap (4294967296 * (r : Int)) + (u : Int))) = decide (q * v0 > 2 ^ 32 * r + u) := by
  have h1 : q * v0 ≤ 2 ^ 32 * 2 ^ 32 - 1 := by
    have : q * v0 ≤ (2 ^ 32 - 1) * (2 ^ 32 - 1) := Nat.mul_le_mul (by omega) (by omega)
    omega
  rw [← Int.natCast_mul]
  generalize q * v0 = x at *
  simp only [u64w]
  exact decide_eq_decide.mpr (by omega)
theorem w_dec {q : Nat} (h : 1 ≤ q) (h2 : q ≤ 2 ^ 33) : IntKind.u64.wrap ((q : Int) - 1) = ((q - 1 : Nat) : Int) := by
  rw [u64w]
  omega
theorem w_radd {r v : Nat} (h : r < 2 ^ 33) (h2 : v < 2 ^ 33) : IntKind.u64.wrap ((r : Int) + (v : Int)) = ((r + v : Nat) : Int) := by
  rw [u64w]
  omega
theorem div_l0 {U u v1 v0 : Nat} (V s u0 : Int) (k : Nat) : ∀ (d q r : Nat), Half U u v1 v0 q r → r < 2 ^ 32 → 2 ^ 32 ≤ r + d * 2 ^ 31 →
    ∃ k', k ≤ k' ∧ bits_Div64.l0 (k + 2 * d + 2) V s (v1 : Int) (v0 : Int) (U : Int) (u : Int) u0 (q : Int) (r : Int) = bits_Div64.j2 k' V s (v1 : Int) (v0 : Int) (U : Int) (u : Int) u0 (((U * 2 ^ 32 + u) / (v1 * 2 ^ 32 + v0) : Nat) : Int) := by
  intro d
  induction d with
  | zero => intro q r _ h1 h2; omega
  | succ d ih =>
    intro q r h hr hd
    have hj : bits_Div64.l0 (k + 2 * (d + 1) + 2) V s (v1 : Int) (v0 : Int) (U : Int) (u : Int) u0 (q : Int) (r : Int) = bits_Div64.j1 (k + 2 * d + 2 + 1) V s (v1 : Int) (v0 : Int) (U : Int) (u : Int) u0 (q : Int) (r : Int) (decide (2 ^ 32 ≤ q ∨ q * v0 > 2 ^ 32 * r + u)) := by
      rw [show k + 2 * (d + 1) + 2 = (k + 2 * d + 2 + 1) + 1 by omega, bits_Div64.l0]
      by_cases c : 2 ^ 32 ≤ q
      · have c' : (q : Int) ≥ 4294967296 := by omega
        rw [if_pos c', decide_eq_true (.inl c)]
      · have c' : ¬ (q : Int) ≥ 4294967296 := by omega
        rw [if_neg c', half_words h.h0 (by omega) hr h.hu]
        refine congrArg _ (decide_eq_decide.mpr ⟨fun h' => .inr h', fun h' => h'.resolve_left c⟩)
    rw [hj, bits_Div64.j1]
    by_cases hc : 2 ^ 32 ≤ q ∨ q * v0 > 2 ^ 32 * r + u
    · have ho := h.over hc
      have hq1 : 1 ≤ q := Nat.lt_of_le_of_lt (Nat.zero_le _) ho
      have htop := h.top
      have hs := h.step hc
      have h2 := h.h2
      have h1 := h.h1
      rw [decide_eq_true hc, if_pos rfl, w_dec hq1 (by omega), w_radd (by omega) (by omega)]
      by_cases c : 2 ^ 32 ≤ r + v1
      · have c' : ((r + v1 : Nat) : Int) ≥ 4294967296 := by omega
        have e := hs.far (by omega) c
        rw [if_pos c', e]
        exact ⟨k + 2 * d + 2, by omega, rfl⟩
      · have c' : ¬ ((r + v1 : Nat) : Int) ≥ 4294967296 := by omega
        rw [if_neg c']
        exact ih (q - 1) (r + v1) hs (by omega) (by omega)
    · have e := h.stop (Nat.le_of_not_lt fun h' => hc (.inr h'))
      rw [decide_eq_false hc, if_neg (by decide), ← e]
      exact ⟨k + 2 * d + 2, by omega, rfl⟩
theorem div_l1 {U u v1 v0 : Nat} (V q1 : Int) (k : Nat) : ∀ (d q r : Nat), Half U u v1 v0 q r → r < 2 ^ 32 → 2 ^ 32 ≤ r + d * 2 ^ 31 →
    bits_Div64.l1 (k + 2 * d + 2) V 0 (v1 : Int) (v0 : Int) (u : Int) q1 (r : Int) (U : Int) (q : Int) =
      some (IntKind.u64.wrap (IntKind.u64.wrap (q1 * 4294967296) + (((U * 2 ^ 32 + u) / (v1 * 2 ^ 32 + v0) : Nat) : Int)), shr .u64 (IntKind.u64.wrap (IntKind.u64.wrap (IntKind.u64.wrap ((U : Int) * 4294967296) + (u : Int)) - IntKind.u64.wrap ((((U * 2 ^ 32 + u) / (v1 * 2 ^ 32 + v0) : Nat) : Int) * V))) 0) := by
  intro d
  induction d with
  | zero => intro q r _ h1 h2; omega
  | succ d ih =>
    intro q r h hr hd
    have hj : bits_Div64.l1 (k + 2 * (d + 1) + 2) V 0 (v1 : Int) (v0 : Int) (u : Int) q1 (r : Int) (U : Int) (q : Int) = bits_Div64.j4 (k + 2 * d + 2 + 1) V 0 (v1 : Int) (v0 : Int) (u : Int) q1 (r : Int) (U : Int) (q : Int) (decide (2 ^ 32 ≤ q ∨ q * v0 > 2 ^ 32 * r + u)) := by
      rw [show k + 2 * (d + 1) + 2 = (k + 2 * d + 2 + 1) + 1 by omega, bits_Div64.l1]
      by_cases c : 2 ^ 32 ≤ q
      · have c' : (q : Int) ≥ 4294967296 := by omega
        rw [if_pos c', decide_eq_true (.inl c)]
      · have c' : ¬ (q : Int) ≥ 4294967296 := by omega
        rw [if_neg c', half_words h.h0 (by omega) hr h.hu]
        refine congrArg _ (decide_eq_decide.mpr ⟨fun h' => .inr h', fun h' => h'.resolve_left c⟩)
    rw [hj, bits_Div64.j4]
    by_cases hc : 2 ^ 32 ≤ q ∨ q * v0 > 2 ^ 32 * r + u
    · have ho := h.over hc
      have hq1 : 1 ≤ q := Nat.lt_of_le_of_lt (Nat.zero_le _) ho
      have htop := h.top
      have hs := h.step hc
      have h2 := h.h2
      have h1 := h.h1
      rw [decide_eq_true hc, if_pos rfl, w_dec hq1 (by omega), w_radd (by omega) (by omega)]
      by_cases c : 2 ^ 32 ≤ r + v1
      · have c' : ((r + v1 : Nat) : Int) ≥ 4294967296 := by omega
        have e := hs.far (by omega) c
        rw [if_pos c', e, if_pos (by decide)]
      · have c' : ¬ ((r + v1 : Nat) : Int) ≥ 4294967296 := by omega
        rw [if_neg c']
        exact ih (q - 1) (r + v1) hs (by omega) (by omega)
    · have e := h.stop (Nat.le_of_not_lt fun h' => hc (.inr h'))
      rw [decide_eq_false hc, if_neg (by decide), if_pos (by decide), ← e]
end Go.Proofs.Ytnlbfomlfhigcaa.M
namespace Go.Proofs.Ytnlbfomlfhigcaa.M
open Go.RowKit Go.Proofs.YtnlbfomlfhigcaaW.PrintWords Go.Proofs.YtnlbfomlfhigcaaW.PrintLast Go.Proofs.YtnlbfomlfhigcaaW.PrintMore Go.Proofs.Ytnlbfomlfhigcaa.Q
theorem bitLen_full {y : Nat} (h : 2 ^ 63 ≤ y) (h2 : y < 2 ^ 64) : Lib.bitLen y = 64 := by
  obtain ⟨l1, l2, l3, l4⟩ := bitLen_bd h2 (by omega)
  have : 63 < Lib.bitLen y := (Nat.pow_lt_pow_iff_right (show 1 < 2 by decide)).1 (Nat.lt_of_le_of_lt h l4)
  omega
theorem w_rem {U u V : Nat} (_ : U < 2 ^ 64) (_ : u < 2 ^ 32) (hV : 0 < V) (hV2 : V < 2 ^ 64) :
    IntKind.u64.wrap (IntKind.u64.wrap (IntKind.u64.wrap ((U : Int) * 4294967296) + (u : Int)) - IntKind.u64.wrap ((((U * 2 ^ 32 + u) / V : Nat) : Int) * (V : Int))) = (((U * 2 ^ 32 + u) % V : Nat) : Int) := by
  have hd := Nat.div_add_mod (U * 2 ^ 32 + u) V
  have hm := Nat.mod_lt (U * 2 ^ 32 + u) hV
  rw [← Int.natCast_mul, Nat.mul_comm ((U * 2 ^ 32 + u) / V)]
  generalize V * ((U * 2 ^ 32 + u) / V) = P at *
  generalize (U * 2 ^ 32 + u) % V = R at *
  simp only [u64w]
  omega
theorem w_rem1 {U v : Nat} (hU : U < 2 ^ 64) : IntKind.u64.wrap ((U : Int) - IntKind.u64.wrap (((U / v : Nat) : Int) * (v : Int))) = ((U % v : Nat) : Int) := by
  have hd := Nat.div_add_mod U v
  rw [← Int.natCast_mul, Nat.mul_comm (U / v)]
  generalize v * (U / v) = P at *
  generalize U % v = R at *
  simp only [u64w]
  omega
theorem tdiv_n (x f : Nat) : Int.tdiv (x : Int) (f : Int) = ((x / f : Nat) : Int) := by
  rw [Int.tdiv_eq_ediv_of_nonneg (Int.natCast_nonneg x)]
  rfl
theorem w_nat {x : Nat} (h : x < 2 ^ 64) : IntKind.u64.wrap (x : Int) = (x : Int) := by
  rw [u64w]
  omega
theorem sixty (U u u0 : Nat) : U * 2 ^ 64 + u * 2 ^ 32 + u0 = (U * 2 ^ 32 + u) * 2 ^ 32 + u0 := by omega
theorem two_halves {M V T R u0 S S' : Nat} (h1 : V * T + R = M) (h2 : V * S + S' = R * 2 ^ 32 + u0) : M * 2 ^ 32 + u0 = V * (T * 2 ^ 32 + S) + S' := by
  rw [Nat.mul_add, ← Nat.mul_assoc]
  omega
theorem word_parts (hi lo : Nat) : hi * 2 ^ 64 + lo / 2 ^ 32 * 2 ^ 32 + lo % 2 ^ 32 = hi * 2 ^ 64 + lo := by omega
theorem div_j2 {U u u0 v1 v0 T : Nat} (h0 : v0 < 2 ^ 32) (h1 : 2 ^ 31 ≤ v1) (h2 : v1 < 2 ^ 32) (hu : u < 2 ^ 32) (hu0 : u0 < 2 ^ 32) (hlt : U < v1 * 2 ^ 32 + v0) (hT : T = (U * 2 ^ 32 + u) / (v1 * 2 ^ 32 + v0)) (k : Nat) :
    bits_Div64.j2 (k + 7) ((v1 * 2 ^ 32 + v0 : Nat) : Int) 0 (v1 : Int) (v0 : Int) (U : Int) (u : Int) (u0 : Int) (T : Int) =
      some ((((U * 2 ^ 64 + u * 2 ^ 32 + u0) / (v1 * 2 ^ 32 + v0) : Nat) : Int), (((U * 2 ^ 64 + u * 2 ^ 32 + u0) % (v1 * 2 ^ 32 + v0) : Nat) : Int)) := by
  have hV : 0 < v1 * 2 ^ 32 + v0 := by omega
  have hV2 : v1 * 2 ^ 32 + v0 < 2 ^ 64 := by omega
  have hU : U < 2 ^ 64 := by omega
  have hT32 : T < 2 ^ 32 := by
    rw [hT]
    exact (half_begin hu h0 h1 h2 hlt).true_lt
  have hr := Nat.mod_lt (U * 2 ^ 32 + u) hV
  have hd := Nat.div_add_mod (U * 2 ^ 32 + u) (v1 * 2 ^ 32 + v0)
  have hv1 : ¬ (v1 : Int) = 0 := by omega
  have hw := w_rem hU hu hV hV2
  rw [← hT] at hw hd
  have hb := half_begin hu0 h0 h1 h2 hr
  have hq := w_rem1 (U := (U * 2 ^ 32 + u) % (v1 * 2 ^ 32 + v0)) (v := v1) (by omega)
  have hq2 : (U * 2 ^ 32 + u) % (v1 * 2 ^ 32 + v0) / v1 < 2 ^ 64 := Nat.lt_of_le_of_lt (Nat.div_le_self _ _) (by omega)
  have hrr := Nat.mod_lt ((U * 2 ^ 32 + u) % (v1 * 2 ^ 32 + v0)) (show 0 < v1 by omega)
  rw [show k + 7 = (k + 6) + 1 from rfl, bits_Div64.j2, if_neg hv1, hw, tdiv_n, w_nat hq2, hq]
  have hl := div_l1 ((v1 * 2 ^ 32 + v0 : Nat) : Int) (T : Int) k 2 _ _ hb (by omega) (by omega)
  have hl' := hl
  rw [show k + 2 * 2 + 2 = k + 6 from rfl] at hl'
  rw [hl']
  have hw2 := w_rem (U := (U * 2 ^ 32 + u) % (v1 * 2 ^ 32 + v0)) (u := u0) (by omega) hu0 hV hV2
  have hT2 := hb.true_lt
  have hd2 := Nat.div_add_mod ((U * 2 ^ 32 + u) % (v1 * 2 ^ 32 + v0) * 2 ^ 32 + u0) (v1 * 2 ^ 32 + v0)
  have hm2 := Nat.mod_lt ((U * 2 ^ 32 + u) % (v1 * 2 ^ 32 + v0) * 2 ^ 32 + u0) hV
  have hsh : ∀ x : Nat, x < 2 ^ 64 → shr .u64 (x : Int) 0 = (x : Int) := by
    intro x _
    have := shr_nat x 0 (by decide)
    rw [Nat.pow_zero, Nat.div_one] at this
    exact this
  rw [hw2, hsh _ (Nat.lt_trans hm2 hV2)]
  have hqq : IntKind.u64.wrap (IntKind.u64.wrap ((T : Int) * 4294967296) + ((((U * 2 ^ 32 + u) % (v1 * 2 ^ 32 + v0) * 2 ^ 32 + u0) / (v1 * 2 ^ 32 + v0) : Nat) : Int)) = ((T * 2 ^ 32 + ((U * 2 ^ 32 + u) % (v1 * 2 ^ 32 + v0) * 2 ^ 32 + u0) / (v1 * 2 ^ 32 + v0) : Nat) : Int) := by
    clear hd2 hd hw hw2 hq hl hl' hT hq2 hrr hr hm2 hb
    generalize ((U * 2 ^ 32 + u) % (v1 * 2 ^ 32 + v0) * 2 ^ 32 + u0) / (v1 * 2 ^ 32 + v0) = S at *
    simp only [u64w]
    omega
  rw [hqq]
  have hsum : U * 2 ^ 64 + u * 2 ^ 32 + u0 = (v1 * 2 ^ 32 + v0) * (T * 2 ^ 32 + ((U * 2 ^ 32 + u) % (v1 * 2 ^ 32 + v0) * 2 ^ 32 + u0) / (v1 * 2 ^ 32 + v0)) + ((U * 2 ^ 32 + u) % (v1 * 2 ^ 32 + v0) * 2 ^ 32 + u0) % (v1 * 2 ^ 32 + v0) := by
    have e : U * 2 ^ 64 + u * 2 ^ 32 + u0 = (U * 2 ^ 32 + u) * 2 ^ 32 + u0 := sixty U u u0
    rw [e]
    exact two_halves hd hd2
  have g1 : (U * 2 ^ 64 + u * 2 ^ 32 + u0) / (v1 * 2 ^ 32 + v0) = T * 2 ^ 32 + ((U * 2 ^ 32 + u) % (v1 * 2 ^ 32 + v0) * 2 ^ 32 + u0) / (v1 * 2 ^ 32 + v0) := by
    rw [hsum, Nat.mul_add_div hV, Nat.div_eq_of_lt hm2, Nat.add_zero]
  have g2 : (U * 2 ^ 64 + u * 2 ^ 32 + u0) % (v1 * 2 ^ 32 + v0) = ((U * 2 ^ 32 + u) % (v1 * 2 ^ 32 + v0) * 2 ^ 32 + u0) % (v1 * 2 ^ 32 + v0) := by
    rw [hsum, Nat.mul_add_mod, Nat.mod_mod]
  rw [g1, g2]
theorem div64_val {hi lo y : Nat} (hy : 2 ^ 63 ≤ y) (hy2 : y < 2 ^ 64) (hh : hi < y) (h0 : hi ≠ 0) (hl : lo < 2 ^ 64) (k : Nat) :
    bits_Div64.f (k + 20) (hi : Int) (lo : Int) (y : Int) = some ((((hi * 2 ^ 64 + lo) / y : Nat) : Int), (((hi * 2 ^ 64 + lo) % y : Nat) : Int)) := by
  have hlz : bits_LeadingZeros64.f (y : Int) = some 0 := by
    unfold bits_LeadingZeros64.f
    rw [if_pos ⟨by omega, by omega⟩, Int.toNat_natCast, bitLen_full hy hy2]
    rfl
  have z0 : IntKind.u64.wrap (0 : Int) = 0 := by rw [u64w]; rfl
  have z64 : IntKind.u64.wrap (64 - 0 : Int) = 64 := by rw [u64w]; rfl
  have s0 : ∀ x : Nat, x < 2 ^ 64 → shl .u64 (x : Int) 0 = (x : Int) := by
    intro x hx
    have := shl_nat x 0 (by decide)
    rw [Nat.pow_zero, Nat.mul_one, Nat.mod_eq_of_lt hx] at this
    exact this
  have sl : shr .u64 (lo : Int) 64 = 0 := by
    have := shr_nat lo 64 (by decide)
    rw [Nat.div_eq_of_lt hl] at this
    exact this
  have hor : Go.bits .or .u64 (hi : Int) 0 = (hi : Int) := by
    have := or_nat hi 0 (by omega) (by decide)
    rw [Nat.or_zero] at this
    exact this
  have m1 : ∀ x : Nat, x < 2 ^ 64 → Go.bits .and .u64 (x : Int) 4294967295 = ((x % 2 ^ 32 : Nat) : Int) := fun x hx => and_mask x 32 hx (by decide)
  have d1 : ∀ x : Nat, (x : Int) / 4294967296 = ((x / 2 ^ 32 : Nat) : Int) := fun x => rfl
  have hv1 : 2 ^ 31 ≤ y / 2 ^ 32 ∧ y / 2 ^ 32 < 2 ^ 32 := by omega
  have hv0 : y % 2 ^ 32 < 2 ^ 32 := Nat.mod_lt _ (by decide)
  have hyv : y / 2 ^ 32 * 2 ^ 32 + y % 2 ^ 32 = y := by omega
  have hu : lo / 2 ^ 32 < 2 ^ 32 := by omega
  have hu0 : lo % 2 ^ 32 < 2 ^ 32 := Nat.mod_lt _ (by decide)
  have hq64 : hi / (y / 2 ^ 32) < 2 ^ 64 := Nat.lt_of_le_of_lt (Nat.div_le_self _ _) (by omega)
  have n1 : ¬ (y : Int) = 0 := by omega
  have n2 : ¬ (y : Int) ≤ (hi : Int) := by omega
  have n3 : ¬ (hi : Int) = 0 := by omega
  have n4 : ¬ ((y / 2 ^ 32 : Nat) : Int) = 0 := by omega
  have hhi64 : hi < 2 ^ 64 := by omega
  have hb := half_begin (U := hi) hu hv0 hv1.1 hv1.2 (by rw [hyv]; exact hh)
  have hrr := Nat.mod_lt hi (show 0 < y / 2 ^ 32 by omega)
  obtain ⟨k', hk', hl0⟩ := div_l0 (y : Int) 0 ((lo % 2 ^ 32 : Nat) : Int) (k + 14) 2 _ _ hb (by omega) (by omega)
  have hj := div_j2 (U := hi) (u := lo / 2 ^ 32) (u0 := lo % 2 ^ 32) hv0 hv1.1 hv1.2 hu hu0 (by rw [hyv]; exact hh) rfl (k' - 7)
  rw [show k' - 7 + 7 = k' by omega, hyv] at hj
  rw [word_parts] at hj
  rw [hyv] at hl0
  unfold bits_Div64.f
  rw [if_neg n1, if_neg n2, if_neg n3, hlz, Option.bind_some, z0, z64, if_pos (by decide), if_pos (by decide), s0 y hy2, s0 hi hhi64, s0 lo hl, sl, hor, d1 y, if_neg n4, m1 y hy2, d1 lo, m1 lo hl, tdiv_n, w_nat hq64, w_rem1 hhi64]
  rw [show k + 20 = k + 14 + 2 * 2 + 2 from rfl, hl0, hj]
theorem part_div {hi lo y : Nat} (hy : 2 ^ 63 ≤ y) (hy2 : y < 2 ^ 64) (hh : hi < y) (h0 : hi ≠ 0) (hl : lo < 2 ^ 64) (k : Nat) :
    part_Div.f (k + 20) (hi : Int) (lo : Int) (y : Int) = some ((((hi * 2 ^ 64 + lo) / y : Nat) : Int), (((hi * 2 ^ 64 + lo) % y : Nat) : Int), none) := by
  unfold part_Div.f
  rw [if_neg (by omega), if_neg (by omega), div64_val hy hy2 hh h0 hl k]
  rfl
end Go.Proofs.Ytnlbfomlfhigcaa.M
namespace Go.Proofs.Ytnlbfomlfhigcaa.M
open Go.RowKit Go.Proofs.YtnlbfomlfhigcaaW.PrintWords Go.Proofs.YtnlbfomlfhigcaaW.PrintLast Go.Proofs.YtnlbfomlfhigcaaW.PrintMore Go.Proofs.Ytnlbfomlfhigcaa.Q
def hld (s : Int) : Int := mx (-1099511627776) (mn s 1099511627776)
def Sout (u Z : Int) (r : Option (Int × Bool × Int × Int × Int × Bool)) : Prop :=
  (Z = 0 ∧ r = some (0, false, 0, 0, 0, false)) ∨ (∃ j, Hi j Z.natAbs ∧ r = some (1, decide (Z < 0), hld (u + (j : Int)), ((tF j Z.natAbs / 2 ^ 64 : Nat) : Int), ((tF j Z.natAbs % 2 ^ 64 : Nat) : Int), tB j Z.natAbs))
theorem q4_parts {a b c d : Nat} (hb : b < 2 ^ 64) (hc : c < 2 ^ 64) (hd : d < 2 ^ 64) : q4 a b c d / 2 ^ 128 = a * 2 ^ 64 + b ∧ q4 a b c d % 2 ^ 128 = c * 2 ^ 64 + d ∧ q4 a b c d / 2 ^ 128 / 2 ^ 64 = a ∧ q4 a b c d / 2 ^ 128 % 2 ^ 64 = b := by
  have h1 : q4 a b c d / 2 ^ 128 = a * 2 ^ 64 + b := by
    unfold q4
    omega
  refine ⟨h1, by unfold q4; omega, ?_, ?_⟩
  · rw [h1]
    omega
  · rw [h1]
    omega
theorem j5_val {a b c d : Nat} (hb : b < 2 ^ 64) (hc : c < 2 ^ 64) (hd : d < 2 ^ 64) (rest neg : Bool) (s : Int) (k : Nat) :
    broad_Sum.j5 (k + 2) rest 1 neg s 0 0 false (a : Int) (b : Int) (c : Int) (d : Int) = some (1, neg, hld s, (a : Int), (b : Int), (rest || decide (q4 a b c d % 2 ^ 128 ≠ 0))) := by
  rw [(q4_parts hb hc hd).2.1, broad_Sum.j5]
  cases rest
  · rw [if_neg (by decide)]
    by_cases h : c = 0
    · subst h
      have e : (((d : Int) != 0) : Bool) = (false || decide (0 * 2 ^ 64 + d ≠ 0)) := by
        by_cases z : d = 0
        · subst z; rfl
        · rw [decide_eq_true (show 0 * 2 ^ 64 + d ≠ 0 by omega)]
          simp only [Bool.or_true, bne_iff_ne, ne_eq]
          omega
      rw [if_pos (by rfl), broad_Sum.j6, e]
      rfl
    · rw [if_neg (by omega), broad_Sum.j6, decide_eq_true (show c * 2 ^ 64 + d ≠ 0 by omega)]
      rfl
  · rw [if_pos rfl, broad_Sum.j6]
    rfl
theorem fin_val {a b c d N l u v cc : Nat} {Z u0 s : Int} {rest neg : Bool} (hb : b < 2 ^ 64) (hc : c < 2 ^ 64) (hd : d < 2 ^ 64) (hW : 2 ^ 255 ≤ q4 a b c d) (hW2 : q4 a b c d < 2 ^ 256)
    (he : N * 2 ^ u = q4 a b c d * 2 ^ v + l) (hl : l < 2 ^ (v + cc)) (hcc : q4 a b c d % 2 ^ cc = 0) (hcc2 : cc ≤ 128) (hZ : Z.natAbs = N) (hneg : neg = decide (Z < 0)) (hrest : rest = decide (l ≠ 0))
    (hs : s = u0 + 255 + (v : Int) - (u : Int)) (k : Nat) : Sout u0 Z (broad_Sum.j5 (k + 2) rest 1 neg s 0 0 false (a : Int) (b : Int) (c : Int) (d : Int)) := by
  obtain ⟨t1, t2, t3, t4⟩ := top_of he hl hcc hcc2 hW hW2
  have hq := q4_parts (a := a) hb hc hd
  refine .inr ⟨255 + v - u, by rw [hZ]; exact t2, ?_⟩
  rw [j5_val hb hc hd, hZ, t3, t4, hq.2.2.1, hq.2.2.2, ← hneg, hrest, Bool.or_comm]
  have e : u0 + ((255 + v - u : Nat) : Int) = s := by omega
  rw [e]
theorem or_top {x : Nat} (h : x < 2 ^ 63) : Go.bits .or .u64 (x : Int) 9223372036854775808 = ((x + 2 ^ 63 : Nat) : Int) := by
  have e := or_add (2 ^ 63) x 63 (by decide) h (by decide) (by decide)
  rw [or_nat _ _ (by decide) (by omega), Nat.or_comm, ← or_nat _ _ (by omega) (by decide)] at e
  have : ((2 ^ 63 : Nat) : Int) = 9223372036854775808 := by decide
  rw [this] at e
  rw [e, Nat.add_comm]
theorem and_one {x : Nat} (h : x < 2 ^ 64) : Go.bits .and .u64 (x : Int) 1 = ((x % 2 : Nat) : Int) := and_mask x 1 h (by decide)
theorem q4_top (a b c d : Nat) : q4 (a + 2 ^ 63) b c d = q4 a b c d + 2 ^ 255 := by
  unfold q4
  omega
theorem dbl_aux (h r p m : Nat) : (h * 2 + r) * p + m = h * (p * 2) + (r * p + m) := by rw [Nat.add_mul, Nat.mul_assoc, Nat.mul_comm 2 p, Nat.add_assoc]
theorem same_val {hx lx hy ly : Nat} {sx sy : Int} {n : Bool} (h1 : 2 ^ 63 ≤ hx) (h2 : hx < 2 ^ 64) (h3 : lx < 2 ^ 64) (h4 : hy < 2 ^ 64) (h5 : ly < 2 ^ 64) (b1 : -1099511627776 ≤ sx) (b2 : sx ≤ 1099511627776) (b3 : -1099511627776 ≤ sy) (hle : sy ≤ sx) (k : Nat) :
    ∀ Z : Int, Z.natAbs = (hx * 2 ^ 64 + lx) * 2 ^ (sx - sy).toNat + (hy * 2 ^ 64 + ly) → n = decide (Z < 0) →
    Sout (sy - 127) Z (broad_Sum.j1 (k + 5) 1 n sx (hx : Int) (lx : Int) false 1 n sy (hy : Int) (ly : Int) false) := by
  intro Z hZ hn
  generalize hd : (sx - sy).toNat = d at hZ
  have hw : wrap64 (sx - sy) = (d : Int) := by unfold wrap64; omega
  obtain ⟨b0, bb1, bb2, bb3, eu, u1, u2, u3, u4, u5⟩ := under_val (x := d) h4 h5 (show 0 < 2 ^ 64 by decide) (show 0 < 2 ^ 64 by decide) k
  obtain ⟨s0, s1, s2, s3, o, ep, p1, p2, p3, p4, p5, p6⟩ := plus_val h2 h3 (show 0 < 2 ^ 64 by decide) (show 0 < 2 ^ 64 by decide) u1 u2 u3 u4
  have h0 : ((0 : Nat) : Int) = 0 := rfl
  rw [h0] at eu ep
  have hpd := pow_pos d
  have hY : q4 hy ly 0 0 = (hy * 2 ^ 64 + ly) * 2 ^ 128 := by unfold q4; omega
  have hX : q4 hx lx 0 0 = (hx * 2 ^ 64 + lx) * 2 ^ 128 := by unfold q4; omega
  have hXlo : 2 ^ 255 ≤ q4 hx lx 0 0 := by unfold q4; omega
  have hdm := Nat.div_add_mod (q4 hy ly 0 0) (2 ^ d)
  have hml := Nat.mod_lt (q4 hy ly 0 0) hpd
  have hN : Z.natAbs * 2 ^ 128 = q4 hx lx 0 0 * 2 ^ d + q4 hy ly 0 0 := by
    rw [hZ, Nat.add_mul, hX, hY, Nat.mul_right_comm]
  have hq4s := q4_lt p1 p2 p3 p4
  rw [broad_Sum.j1, hw, eu, Option.bind_some, if_pos (by simp), ep, Option.bind_some]
  have hN2 : Z.natAbs * 2 ^ 128 = (q4 s0 s1 s2 s3 + o * 2 ^ 256) * 2 ^ d + q4 hy ly 0 0 % 2 ^ d := by
    rw [hN, p6, u5, Nat.add_mul, Nat.mul_comm (q4 hy ly 0 0 / 2 ^ d)]
    omega
  simp only
  by_cases ho : o = 1
  · subst ho
    obtain ⟨t0, t1, t2, t3, et, v1, v2, v3, v4, v5⟩ := under_val (x := 1) p1 p2 p3 p4 k
    rw [if_pos (by rfl)]
    have et' : broad_wide_under.f (k + 4) (s0 : Int) (s1 : Int) (s2 : Int) (s3 : Int) 1 = _ := et
    rw [et', Option.bind_some]
    have ht0 : t0 < 2 ^ 63 := by
      have : q4 t0 t1 t2 t3 < 2 ^ 255 := by rw [v5]; omega
      unfold q4 at this
      omega
    simp only
    rw [or_top ht0, and_one p4]
    have hodd : q4 s0 s1 s2 s3 % 2 = s3 % 2 := by unfold q4; omega
    have hW : q4 (t0 + 2 ^ 63) t1 t2 t3 = q4 s0 s1 s2 s3 / 2 + 2 ^ 255 := by
      rw [q4_top]
      exact congrArg (· + 2 ^ 255) v5
    have hlast : ∀ rest : Bool, rest = decide (s3 % 2 * 2 ^ d + q4 hy ly 0 0 % 2 ^ d ≠ 0) → Sout (sy - 127) Z (broad_Sum.j2 (k + 4) rest 1 n (wrap64 (sx + 1)) 0 0 false ((t0 + 2 ^ 63 : Nat) : Int) (t1 : Int) (t2 : Int) (t3 : Int)) := by
      intro rest hr
      rw [show k + 4 = (k + 3) + 1 from rfl, broad_Sum.j2]
      refine fin_val (N := Z.natAbs) (l := s3 % 2 * 2 ^ d + q4 hy ly 0 0 % 2 ^ d) (u := 128) (v := d + 1) (cc := 0) v2 v3 v4 ?_ ?_ ?_ ?_ (by rw [Nat.pow_zero, Nat.mod_one]) (by omega) rfl hn hr ?_ (k + 1)
      · rw [hW]; omega
      · rw [hW]; omega
      · rw [hN2, hW, ← hodd]
        have e2 := Nat.div_add_mod (q4 s0 s1 s2 s3) 2
        have e3 : q4 s0 s1 s2 s3 + 1 * 2 ^ 256 = (q4 s0 s1 s2 s3 / 2 + 2 ^ 255) * 2 + q4 s0 s1 s2 s3 % 2 := by omega
        rw [e3, Nat.pow_succ]
        exact dbl_aux _ _ _ _
      · rw [Nat.add_zero, Nat.pow_succ]
        have : s3 % 2 * 2 ^ d ≤ 1 * 2 ^ d := Nat.mul_le_mul_right _ (by omega)
        omega
      · unfold wrap64; omega
    by_cases hr : q4 hy ly 0 0 % 2 ^ d = 0
    · rw [decide_eq_false (show ¬ q4 hy ly 0 0 % 2 ^ d ≠ 0 by omega), if_neg (by decide)]
      refine hlast _ ?_
      rw [hr, Nat.add_zero]
      by_cases z : s3 % 2 = 0
      · rw [z, Nat.zero_mul]
        rfl
      · have e1 : s3 % 2 = 1 := by omega
        rw [e1, decide_eq_true (show 1 * 2 ^ d ≠ 0 by omega)]
        rfl
    · rw [decide_eq_true hr, if_pos rfl]
      exact hlast _ (decide_eq_true (by omega)).symm
  · have ho0 : o = 0 := by omega
    subst ho0
    rw [if_neg (by decide), show k + 4 = (k + 3) + 1 from rfl, broad_Sum.j2]
    rw [Nat.zero_mul, Nat.add_zero] at hN2 p6
    refine fin_val (N := Z.natAbs) (l := q4 hy ly 0 0 % 2 ^ d) (u := 128) (v := d) (cc := 0) p2 p3 p4 ?_ hq4s hN2 (by rw [Nat.add_zero]; exact hml) (by rw [Nat.pow_zero, Nat.mod_one]) (by omega) rfl hn rfl ?_ (k + 1)
    · rw [p6]
      exact Nat.le_trans hXlo (Nat.le_add_right _ _)
    · omega
theorem j4_zero {a b c d : Nat} (h : q4 a b c d = 0) (rest neg : Bool) (s : Int) (k : Nat) : broad_Sum.j4 (k + 1) rest 1 neg s 0 0 false (a : Int) (b : Int) (c : Int) (d : Int) = some (0, false, 0, 0, 0, false) := by
  have ha : a = 0 := by unfold q4 at h; omega
  have hb : b = 0 := by unfold q4 at h; omega
  have hc : c = 0 := by unfold q4 at h; omega
  have hd : d = 0 := by unfold q4 at h; omega
  subst ha hb hc hd
  rw [broad_Sum.j4, if_pos (by decide)]
theorem j4_some {a b c d : Nat} (ha : a < 2 ^ 64) (hb : b < 2 ^ 64) (hc : c < 2 ^ 64) (hd : d < 2 ^ 64) (h : q4 a b c d ≠ 0) (neg : Bool) {s : Int} (hs : -1099511627776 ≤ s) (hs2 : s ≤ 1099511627776) :
    ∃ a' b' c' d' t : Nat, a' < 2 ^ 64 ∧ b' < 2 ^ 64 ∧ c' < 2 ^ 64 ∧ d' < 2 ^ 64 ∧ t ≤ 255 ∧ 2 ^ 255 ≤ q4 a' b' c' d' ∧ q4 a' b' c' d' < 2 ^ 256 ∧ q4 a' b' c' d' = q4 a b c d * 2 ^ t ∧
      ∀ (rest : Bool) (k : Nat), broad_Sum.j4 (k + 1) rest 1 neg s 0 0 false (a : Int) (b : Int) (c : Int) (d : Int) = broad_Sum.j5 k rest 1 neg (s - (t : Int)) 0 0 false (a' : Int) (b' : Int) (c' : Int) (d' : Int) := by
  obtain ⟨a', b', c', d', t, e, r1, r2, r3, r4, r5, r6, r7⟩ := raised_val ha hb hc hd h
  refine ⟨a', b', c', d', t, r1, r2, r3, r4, r5, by unfold q4; omega, q4_lt r1 r2 r3 r4, r7, fun rest k => ?_⟩
  have hz : ¬ ((a : Int) == 0 && ((b : Int) == 0 && ((c : Int) == 0 && ((d : Int) == 0)))) = true := by
    simp only [Bool.and_eq_true, beq_iff_eq]
    intro hh
    apply h
    unfold q4
    omega
  have hw : wrap64 (s - (t : Int)) = s - (t : Int) := by unfold wrap64; omega
  rw [broad_Sum.j4, if_neg hz, e, Option.bind_some]
  simp only
  rw [hw]
theorem near_N {A B C : Nat} {n m : Bool} (hnm : n ≠ m) {Z : Int} (hZ : Z = if n then -(A : Int) + (B : Int) else (A : Int) - (B : Int)) (hD : C + A * 2 ^ 128 = B * 2 ^ 128) (hC : C ≠ 0) : Z.natAbs * 2 ^ 128 = C ∧ (Z < 0 ↔ m = true) := by
  cases n
  · have hm : m = true := by cases m <;> simp_all
    rw [if_neg (by decide)] at hZ
    subst hm
    simp only [iff_true]
    omega
  · have hm : m = false := by cases m <;> simp_all
    rw [if_pos rfl] at hZ
    subst hm
    simp only [Bool.false_eq_true, iff_false]
    omega
theorem far_N {A B C : Nat} {n : Bool} {Z : Int} (hZ : Z = if n then -(A : Int) + (B : Int) else (A : Int) - (B : Int)) (hD : A * 2 ^ 128 = C + B * 2 ^ 128) : Z.natAbs * 2 ^ 128 = C ∧ (Z ≠ 0 → (Z < 0 ↔ n = true)) := by
  cases n
  · rw [if_neg (by decide)] at hZ
    simp only [Bool.false_eq_true, iff_false]
    omega
  · rw [if_pos rfl] at hZ
    simp only [iff_true]
    omega
theorem neg_eq {Z : Int} {m : Bool} (h : Z < 0 ↔ m = true) : m = decide (Z < 0) := by
  by_cases hz : Z < 0
  · rw [decide_eq_true hz]; exact h.1 hz
  · rw [decide_eq_false hz]; exact Bool.eq_false_iff.mpr fun hm => hz (h.2 hm)
theorem q4_high (x y : Nat) : q4 x y 0 0 = (x * 2 ^ 64 + y) * 2 ^ 128 := by
  unfold q4
  omega
theorem q4_half {x : Nat} (y : Nat) (h : 2 ^ 63 ≤ x) : 2 ^ 255 ≤ q4 x y 0 0 := by
  unfold q4
  omega
theorem lost_far {x y d : Nat} (h1 : x < 2 ^ 64) (h2 : y < 2 ^ 64) (hr : q4 x y 0 0 % 2 ^ d ≠ 0) : q4 x y 0 0 / 2 ^ d < 2 ^ 127 := by
  have hd128 : 128 < d := by
    refine Nat.lt_of_not_le fun hh => hr ?_
    rw [q4_high, show (2 : Nat) ^ 128 = 2 ^ d * 2 ^ (128 - d) from pow_split hh, Nat.mul_left_comm]
    exact Nat.mul_mod_right _ _
  rw [Nat.div_lt_iff_lt_mul (pow_pos d)]
  have : 2 ^ 256 ≤ 2 ^ 127 * 2 ^ d := by rw [← Nat.pow_add]; exact pow_le (by omega)
  exact Nat.lt_of_lt_of_le (q4_lt h1 h2 (show 0 < 2 ^ 64 by decide) (show 0 < 2 ^ 64 by decide)) this
theorem near_half {x y d : Nat} (h1 : x < 2 ^ 64) (h2 : y < 2 ^ 64) (hd0 : d ≠ 0) : q4 x y 0 0 / 2 ^ d < 2 ^ 255 := by
  rw [Nat.div_lt_iff_lt_mul (pow_pos d)]
  have : 2 ^ 256 ≤ 2 ^ 255 * 2 ^ d := by rw [← Nat.pow_add]; exact pow_le (by omega)
  exact Nat.lt_of_lt_of_le (q4_lt h1 h2 (show 0 < 2 ^ 64 by decide) (show 0 < 2 ^ 64 by decide)) this
theorem turn_val {hx lx hy ly : Nat} {s : Int} {n m : Bool} (hnm : n ≠ m) (h2 : hx < 2 ^ 64) (h3 : lx < 2 ^ 64) (u1 : hy < 2 ^ 64) (u2 : ly < 2 ^ 64) (b1 : -1099511627776 ≤ s) (b2 : s ≤ 1099511627776) (hlt : q4 hx lx 0 0 < q4 hy ly 0 0)
    {Z : Int} (hZ : Z = (if n then -((hx * 2 ^ 64 + lx : Nat) : Int) + ((hy * 2 ^ 64 + ly : Nat) : Int) else ((hx * 2 ^ 64 + lx : Nat) : Int) - ((hy * 2 ^ 64 + ly : Nat) : Int))) (k : Nat) :
    ∃ g0 g1 g2 g3 : Nat, broad_wide_less.f (hy : Int) (ly : Int) 0 0 (hx : Int) (lx : Int) 0 0 0 = some ((g0 : Int), (g1 : Int), (g2 : Int), (g3 : Int), 0) ∧
      Sout (s - 127) Z (broad_Sum.j4 (k + 3) false 1 m s 0 0 false (g0 : Int) (g1 : Int) (g2 : Int) (g3 : Int)) := by
  obtain ⟨g0, g1, g2, g3, o, eg, q1, q2, q3, q4', q5, q6⟩ := less_val u1 u2 (show 0 < 2 ^ 64 by decide) (show 0 < 2 ^ 64 by decide) h2 h3 (show 0 < 2 ^ 64 by decide) (show 0 < 2 ^ 64 by decide) (show 0 ≤ 1 by decide)
  have hq4g := q4_lt q1 q2 q3 q4'
  have ho : o = 0 := by omega
  subst ho
  have h0 : ((0 : Nat) : Int) = 0 := rfl
  rw [h0] at eg
  refine ⟨g0, g1, g2, g3, eg, ?_⟩
  rw [Nat.zero_mul, Nat.add_zero, Nat.add_zero] at q6
  have hD : q4 g0 g1 g2 g3 + q4 hx lx 0 0 = q4 hy ly 0 0 := q6
  have hne : q4 g0 g1 g2 g3 ≠ 0 := fun h => by
    rw [h, Nat.zero_add] at hD
    exact absurd hD (Nat.ne_of_lt hlt)
  obtain ⟨a', b', c', d', t, r1, r2, r3, r4, r5, r6, r7, r8, r9⟩ := j4_some q1 q2 q3 q4' hne m b1 b2
  rw [show k + 3 = (k + 2) + 1 from rfl, r9]
  rw [q4_high, q4_high] at hD
  have hN := near_N hnm hZ hD hne
  refine fin_val (N := Z.natAbs) (l := 0) (u := 128 + t) (v := 0) (cc := 0) r2 r3 r4 r6 r7 ?_ (by decide) (by rw [Nat.pow_zero, Nat.mod_one]) (by decide) rfl (neg_eq hN.2) (by decide) ?_ k
  · rw [Nat.pow_add, ← Nat.mul_assoc, hN.1, r8, Nat.pow_zero, Nat.mul_one, Nat.add_zero]
  · omega
theorem less_left {hx lx hy ly d r e0 e1 e2 e3 : Nat} {sx u0 : Int} {n : Bool} (h1 : 2 ^ 63 ≤ hx) (h4 : hy < 2 ^ 64) (h5 : ly < 2 ^ 64) (b1 : -1099511627776 ≤ sx) (b2 : sx ≤ 1099511627776) (hu : sx = u0 + 127 + (d : Int))
    (p1 : e0 < 2 ^ 64) (p2 : e1 < 2 ^ 64) (p3 : e2 < 2 ^ 64) (p4 : e3 < 2 ^ 64) (hr1 : r ≤ 1) (hr : r = 1 ↔ q4 hy ly 0 0 % 2 ^ d ≠ 0) (p6 : q4 e0 e1 e2 e3 + q4 hy ly 0 0 / 2 ^ d + r = q4 hx lx 0 0)
    {Z : Int} (hZ : Z = (if n then -(((hx * 2 ^ 64 + lx) * 2 ^ d : Nat) : Int) + ((hy * 2 ^ 64 + ly : Nat) : Int) else (((hx * 2 ^ 64 + lx) * 2 ^ d : Nat) : Int) - ((hy * 2 ^ 64 + ly : Nat) : Int))) (k : Nat) :
    Sout u0 Z (broad_Sum.j4 (k + 3) (decide (q4 hy ly 0 0 % 2 ^ d ≠ 0)) 1 n sx 0 0 false (e0 : Int) (e1 : Int) (e2 : Int) (e3 : Int)) := by
  have hpd := pow_pos d
  have hXlo := q4_half lx h1
  have hdm := Nat.div_add_mod (q4 hy ly 0 0) (2 ^ d)
  have hml := Nat.mod_lt (q4 hy ly 0 0) hpd
  have hl0 : ∃ l0, l0 + q4 hy ly 0 0 % 2 ^ d = r * 2 ^ d ∧ l0 < 2 ^ d ∧ (l0 = 0 ↔ r = 0) := by
    by_cases hr0 : r = 0
    · subst hr0
      have : q4 hy ly 0 0 % 2 ^ d = 0 := Classical.byContradiction fun h => by have := hr.2 h; omega
      exact ⟨0, by rw [this, Nat.zero_mul], by omega, by simp⟩
    · have hr1' : r = 1 := by omega
      subst hr1'
      have := hr.1 rfl
      exact ⟨2 ^ d - q4 hy ly 0 0 % 2 ^ d, by omega, by omega, by omega⟩
  obtain ⟨l0, hl0, hl1, hl2⟩ := hl0
  have hNX : q4 hx lx 0 0 * 2 ^ d = q4 e0 e1 e2 e3 * 2 ^ d + l0 + q4 hy ly 0 0 := by
    rw [← p6, Nat.add_mul, Nat.add_mul, ← hl0, Nat.mul_comm (q4 hy ly 0 0 / 2 ^ d)]
    omega
  rw [q4_high hx, q4_high hy, Nat.mul_right_comm] at hNX
  have hN := far_N hZ hNX
  have hfar := fun h => lost_far (d := d) h4 h5 h
  by_cases hE : q4 e0 e1 e2 e3 = 0
  ·
    have hr0 : r = 0 := by
      refine Classical.byContradiction fun h => ?_
      have := hfar (hr.1 (by omega))
      omega
    have hl00 := hl2.2 hr0
    refine .inl ⟨?_, ?_⟩
    · have h3 := hN.1
      rw [hE, hl00, Nat.zero_mul] at h3
      omega
    · rw [show k + 3 = (k + 2) + 1 from rfl, j4_zero hE]
  · obtain ⟨a', b', c', d', t, r1, r2, r3, r4, r5, r6, r7, r8, r9⟩ := j4_some p1 p2 p3 p4 hE n b1 b2
    rw [show k + 3 = (k + 2) + 1 from rfl, r9]
    have hZ0 : Z ≠ 0 := by
      intro hz
      have h3 := hN.1
      have := Nat.mul_ne_zero hE (show 2 ^ d ≠ 0 by omega)
      rw [hz, Int.natAbs_zero, Nat.zero_mul] at h3
      omega
    have ht1 : r ≠ 0 → t ≤ 1 := by
      intro hr0
      have h3 := hfar (hr.1 (by omega))
      refine Nat.le_of_not_lt fun ht => ?_
      have h6 : 2 ^ 2 ≤ 2 ^ t := pow_le ht
      have h7 : 2 ^ 254 ≤ q4 e0 e1 e2 e3 := by omega
      have h8 := Nat.mul_le_mul h7 h6
      omega
    have heq : Z.natAbs * 2 ^ (128 + t) = q4 a' b' c' d' * 2 ^ d + l0 * 2 ^ t := by
      rw [Nat.pow_add, ← Nat.mul_assoc, hN.1, Nat.add_mul, r8, Nat.mul_right_comm]
    have hneg := neg_eq (hN.2 hZ0)
    have hpt := pow_pos t
    have hrest : decide (q4 hy ly 0 0 % 2 ^ d ≠ 0) = decide (l0 * 2 ^ t ≠ 0) := by
      refine decide_eq_decide.mpr ⟨fun h => Nat.mul_ne_zero (fun h' => ?_) (by omega), fun h => hr.1 ?_⟩
      · have := hr.2 h
        have := hl2.1 h'
        omega
      · refine Classical.byContradiction fun h' => h ?_
        rw [hl2.2 (by omega), Nat.zero_mul]
    by_cases hr0 : r = 0
    · have hl00 := hl2.2 hr0
      refine fin_val (N := Z.natAbs) (l := l0 * 2 ^ t) (u := 128 + t) (v := d) (cc := 0) r2 r3 r4 r6 r7 heq ?_ (by rw [Nat.pow_zero, Nat.mod_one]) (by decide) rfl hneg hrest ?_ k
      · rw [hl00, Nat.zero_mul]
        exact pow_pos _
      · omega
    · have := ht1 hr0
      refine fin_val (N := Z.natAbs) (l := l0 * 2 ^ t) (u := 128 + t) (v := d) (cc := t) r2 r3 r4 r6 r7 heq ?_ (by rw [r8]; exact Nat.mul_mod_left _ _) (by omega) rfl hneg hrest ?_ k
      · rw [Nat.pow_add]
        exact Nat.mul_lt_mul_of_pos_right hl1 hpt
      · omega
theorem diff_val {hx lx hy ly : Nat} {sx sy : Int} {n m : Bool} (hnm : n ≠ m) (h1 : 2 ^ 63 ≤ hx) (h2 : hx < 2 ^ 64) (h3 : lx < 2 ^ 64) (h4 : hy < 2 ^ 64) (h5 : ly < 2 ^ 64) (b1 : -1099511627776 ≤ sx) (b2 : sx ≤ 1099511627776) (b3 : -1099511627776 ≤ sy) (hle : sy ≤ sx) (k : Nat) :
    ∀ Z : Int, Z = (if n then -(((hx * 2 ^ 64 + lx) * 2 ^ (sx - sy).toNat : Nat) : Int) + ((hy * 2 ^ 64 + ly : Nat) : Int) else (((hx * 2 ^ 64 + lx) * 2 ^ (sx - sy).toNat : Nat) : Int) - ((hy * 2 ^ 64 + ly : Nat) : Int)) →
    Sout (sy - 127) Z (broad_Sum.j1 (k + 5) 1 n sx (hx : Int) (lx : Int) false 1 m sy (hy : Int) (ly : Int) false) := by
  intro Z hZ
  generalize hd : (sx - sy).toNat = d at hZ
  have hw : wrap64 (sx - sy) = (d : Int) := by unfold wrap64; omega
  obtain ⟨b0, bb1, bb2, bb3, eu, u1, u2, u3, u4, u5⟩ := under_val (x := d) h4 h5 (show 0 < 2 ^ 64 by decide) (show 0 < 2 ^ 64 by decide) k
  have h0 : ((0 : Nat) : Int) = 0 := rfl
  rw [h0] at eu
  have hXlo := q4_half lx h1
  have hbeq : ¬ ((n == m) = true) := by simpa using hnm
  rw [broad_Sum.j1, hw, eu, Option.bind_some, if_neg hbeq]
  simp only
  have step : ∀ (r : Nat), r ≤ 1 → (r = 1 ↔ q4 hy ly 0 0 % 2 ^ d ≠ 0) →
      Sout (sy - 127) Z (broad_Sum.j3 (k + 4) (decide (q4 hy ly 0 0 % 2 ^ d ≠ 0)) (r : Int) 1 m sy (hy : Int) (ly : Int) false (hx : Int) (lx : Int) 0 0 (b0 : Int) (bb1 : Int) (bb2 : Int) (bb3 : Int) 1 n sx 0 0 false) := by
    intro r hr1 hr
    obtain ⟨e0, e1, e2, e3, p, ep, p1, p2, p3, p4, p5, p6⟩ := less_val h2 h3 (show 0 < 2 ^ 64 by decide) (show 0 < 2 ^ 64 by decide) u1 u2 u3 u4 hr1
    rw [h0] at ep
    rw [show k + 4 = (k + 3) + 1 from rfl, broad_Sum.j3, ep, Option.bind_some]
    simp only
    have hq4e := q4_lt p1 p2 p3 p4
    rw [u5] at p6
    by_cases hp : p = 1
    · subst hp
      have hd0 : d = 0 := by
        refine Classical.byContradiction fun hd0 => ?_
        have := near_half h4 h5 hd0
        omega
      subst hd0
      have hr0 : r = 0 := by
        refine Classical.byContradiction fun h => ?_
        have := hr.1 (by omega)
        rw [Nat.pow_zero, Nat.mod_one] at this
        exact this rfl
      subst hr0
      have hss : sy = sx := by omega
      rw [Nat.pow_zero, Nat.div_one] at p6 u5

      have hb0 : b0 = hy ∧ bb1 = ly ∧ bb2 = 0 ∧ bb3 = 0 := by
        unfold q4 at u5
        omega
      obtain ⟨rfl, rfl, rfl, rfl⟩ := hb0
      rw [Nat.pow_zero, Nat.mul_one] at hZ
      obtain ⟨g0, g1, g2, g3, eg, hS⟩ := turn_val hnm h2 h3 h4 h5 b1 b2 (show q4 hx lx 0 0 < q4 b0 bb1 0 0 by omega) hZ k
      rw [if_pos (by rfl)]
      rw [h0, eg, Option.bind_some]
      simp only
      rw [hss, Nat.pow_zero, Nat.mod_one]
      exact hS
    · have hp0 : p = 0 := by omega
      subst hp0
      rw [if_neg (by decide)]
      rw [Nat.zero_mul, Nat.add_zero] at p6
      exact less_left h1 h4 h5 b1 b2 (by omega) p1 p2 p3 p4 hr1 hr p6 hZ k
  by_cases hr : q4 hy ly 0 0 % 2 ^ d = 0
  · have e := step 0 (by decide) ⟨fun h => by omega, fun h => absurd hr h⟩
    rw [if_neg (by rw [decide_eq_false (show ¬ q4 hy ly 0 0 % 2 ^ d ≠ 0 by omega)]; decide)]
    exact e
  · have e := step 1 (by decide) ⟨fun _ => hr, fun _ => rfl⟩
    rw [if_pos (by rw [decide_eq_true hr])]
    exact e
end Go.Proofs.Ytnlbfomlfhigcaa.M
namespace Go.Proofs.Ytnlbfomlfhigcaa.M
open Go.RowKit Go.Proofs.YtnlbfomlfhigcaaW.PrintWords Go.Proofs.YtnlbfomlfhigcaaW.PrintLast Go.Proofs.YtnlbfomlfhigcaaW.PrintMore Go.Proofs.Ytnlbfomlfhigcaa.Q
def sv (n : Bool) (x : Nat) : Int := if n then -(x : Int) else (x : Int)
def vl (u : Int) (n : Bool) (s : Int) (F : Nat) : Int := sv n (F * 2 ^ (s - 127 - u).toNat)
theorem sv_abs (n : Bool) (x : Nat) : (sv n x).natAbs = x := by
  unfold sv
  cases n
  · rw [if_neg (by decide)]; omega
  · rw [if_pos rfl]; omega
theorem sv_mul (n : Bool) (x y : Nat) : sv n (x * y) = sv n x * (y : Int) := by
  unfold sv
  cases n
  · rw [if_neg (by decide), if_neg (by decide), Int.natCast_mul]
  · rw [if_pos rfl, if_pos rfl, Int.natCast_mul, Int.neg_mul]
theorem sv_neg {n : Bool} {x : Nat} (h : x ≠ 0) : decide (sv n x < 0) = n := by
  unfold sv
  cases n
  · rw [if_neg (by decide)]; exact decide_eq_false (by omega)
  · rw [if_pos rfl]; exact decide_eq_true (by omega)
theorem mul_pow_neg {Z : Int} (c : Nat) : (Z * ((2 ^ c : Nat) : Int) < 0 ↔ Z < 0) ∧ (Z * ((2 ^ c : Nat) : Int) = 0 ↔ Z = 0) := by
  have hp := pow_pos c
  have hp' : (0 : Int) < ((2 ^ c : Nat) : Int) := by omega
  generalize ((2 ^ c : Nat) : Int) = p at *
  refine ⟨⟨fun h => ?_, fun h => Int.mul_neg_of_neg_of_pos h hp'⟩, ⟨fun h => ?_, fun h => by rw [h, Int.zero_mul]⟩⟩
  · refine Int.not_le.1 fun h' => ?_
    have := Int.mul_nonneg h' (Int.le_of_lt hp')
    omega
  · rcases Int.mul_eq_zero.1 h with h | h
    · exact h
    · omega
theorem Sout.shift {u Z : Int} {r : Option (Int × Bool × Int × Int × Int × Bool)} (h : Sout u Z r) (c : Nat) : Sout (u - (c : Int)) (Z * ((2 ^ c : Nat) : Int)) r := by
  rcases h with ⟨h1, h2⟩ | ⟨j, h1, h2⟩
  · exact .inl ⟨(mul_pow_neg c).2.2 h1, h2⟩
  · have e : (Z * ((2 ^ c : Nat) : Int)).natAbs = Z.natAbs * 2 ^ c := by rw [Int.natAbs_mul, Int.natAbs_natCast]
    refine .inr ⟨j + c, by rw [e]; exact h1.mul c, ?_⟩
    rw [e, tF_mul, tB_mul, h2]
    have e1 : u - (c : Int) + ((j + c : Nat) : Int) = u + (j : Int) := by omega
    have e2 : decide (Z * ((2 ^ c : Nat) : Int) < 0) = decide (Z < 0) := decide_eq_decide.mpr (mul_pow_neg c).1
    rw [e1, e2]
theorem vl_shift {u s : Int} {n : Bool} {F : Nat} (hu : u ≤ s - 127) (c : Nat) : vl (u - (c : Int)) n s F = vl u n s F * ((2 ^ c : Nat) : Int) := by
  unfold vl
  rw [← sv_mul, Nat.mul_assoc, ← Nat.pow_add]
  congr 3
  omega
theorem sv_same (n : Bool) (A B : Nat) : (sv n A + sv n B).natAbs = A + B := by
  unfold sv
  cases n
  · rw [if_neg (by decide), if_neg (by decide)]; omega
  · rw [if_pos rfl, if_pos rfl]; omega
theorem sv_same_neg {n : Bool} (A B : Nat) (h : A ≠ 0) : n = decide (sv n A + sv n B < 0) := by
  unfold sv
  cases n
  · rw [if_neg (by decide), if_neg (by decide)]; exact (decide_eq_false (by omega)).symm
  · rw [if_pos rfl, if_pos rfl]; exact (decide_eq_true (by omega)).symm
theorem sv_diff {n m : Bool} (h : n ≠ m) (A B : Nat) : sv n A + sv m B = if n then -(A : Int) + (B : Int) else (A : Int) - (B : Int) := by
  unfold sv
  cases n
  · have hm : m = true := by cases m <;> simp_all
    subst hm
    rw [if_neg (by decide), if_pos rfl, if_neg (by decide)]
    omega
  · have hm : m = false := by cases m <;> simp_all
    subst hm
    rw [if_pos rfl, if_neg (by decide), if_pos rfl]
theorem sum_ord {hx lx hy ly : Nat} {sx sy : Int} {n m : Bool} (h1 : 2 ^ 63 ≤ hx) (h2 : hx < 2 ^ 64) (h3 : lx < 2 ^ 64) (_ : 2 ^ 63 ≤ hy) (h4 : hy < 2 ^ 64) (h5 : ly < 2 ^ 64) (b1 : -1099511627776 ≤ sx) (b2 : sx ≤ 1099511627776) (b3 : -1099511627776 ≤ sy) (hle : sy ≤ sx) (k : Nat) :
    Sout (sy - 127) (vl (sy - 127) n sx (hx * 2 ^ 64 + lx) + vl (sy - 127) m sy (hy * 2 ^ 64 + ly)) (broad_Sum.j1 (k + 5) 1 n sx (hx : Int) (lx : Int) false 1 m sy (hy : Int) (ly : Int) false) := by
  have e1 : (sx - 127 - (sy - 127)).toNat = (sx - sy).toNat := by omega
  have e2 : (sy - 127 - (sy - 127)).toNat = 0 := by omega
  have hp := pow_pos (sx - sy).toNat
  have hX : (hx * 2 ^ 64 + lx) * 2 ^ (sx - sy).toNat ≠ 0 := Nat.mul_ne_zero (by omega) (by omega)
  unfold vl
  rw [e1, e2, Nat.pow_zero, Nat.mul_one]
  by_cases hnm : n = m
  · subst hnm
    exact same_val h1 h2 h3 h4 h5 b1 b2 b3 hle k _ (sv_same _ _ _) (sv_same_neg _ _ hX)
  · exact diff_val hnm h1 h2 h3 h4 h5 b1 b2 b3 hle k _ (sv_diff hnm _ _)
theorem sum_spec {hx lx hy ly : Nat} {sx sy : Int} {n m : Bool} (h1 : 2 ^ 63 ≤ hx) (h2 : hx < 2 ^ 64) (h3 : lx < 2 ^ 64) (h1y : 2 ^ 63 ≤ hy) (h4 : hy < 2 ^ 64) (h5 : ly < 2 ^ 64) (b1 : -1099511627776 ≤ sx) (b2 : sx ≤ 1099511627776) (b3 : -1099511627776 ≤ sy) (b4 : sy ≤ 1099511627776)
    {u : Int} (hu : u ≤ sx - 127) (hu' : u ≤ sy - 127) (k : Nat) :
    Sout u (vl u n sx (hx * 2 ^ 64 + lx) + vl u m sy (hy * 2 ^ 64 + ly)) (broad_Sum.f (k + 6) 1 n sx (hx : Int) (lx : Int) false 1 m sy (hy : Int) (ly : Int) false) := by
  unfold broad_Sum.f
  rw [if_neg (by decide), show k + 6 = (k + 5) + 1 from rfl, broad_Sum.j0, if_neg (by decide), if_neg (by decide), if_neg (by decide)]
  by_cases hlt : sx < sy
  · rw [if_pos hlt]
    have h := (sum_ord (n := m) (m := n) h1y h4 h5 h1 h2 h3 b3 b4 b1 (Int.le_of_lt hlt) k).shift (sx - 127 - u).toNat
    have e : sx - 127 - ((sx - 127 - u).toNat : Int) = u := by omega
    rw [Int.add_mul, ← vl_shift (by omega), ← vl_shift (by omega), e, Int.add_comm] at h
    exact h
  · rw [if_neg hlt]
    have h := (sum_ord (n := n) (m := m) h1 h2 h3 h1y h4 h5 b1 b2 b3 (by omega) k).shift (sy - 127 - u).toNat
    have e : sy - 127 - ((sy - 127 - u).toNat : Int) = u := by omega
    rw [Int.add_mul, ← vl_shift (by omega), ← vl_shift (by omega), e] at h
    exact h
theorem sum_zero_l (k : Nat) (n : Bool) (s h l : Int) (b : Bool) (kd : Int) (hk : kd = 0 ∨ kd = 1) : broad_Sum.f (k + 1) 0 false 0 0 0 false kd n s h l b = some (kd, n, s, h, l, b) := by
  unfold broad_Sum.f
  have e : (kd == 2) = false := by rcases hk with rfl | rfl <;> rfl
  rw [if_neg (by decide), e, broad_Sum.j0, if_neg (by decide), if_pos rfl]
theorem sum_zero_r (k : Nat) (n : Bool) (s h l : Int) (b : Bool) : broad_Sum.f (k + 1) 1 n s h l b 0 false 0 0 0 false = some (1, n, s, h, l, b) := by
  unfold broad_Sum.f
  rw [if_neg (by decide), show ((0 : Int) == 2) = false from rfl, broad_Sum.j0, if_neg (by decide), if_neg (by decide), if_pos rfl]
theorem sum_nar_l (k : Nat) (n : Bool) (s h l : Int) (b : Bool) (kd n' s' h' l' b') : broad_Sum.f (k + 1) 2 n s h l b kd n' s' h' l' b' = some (2, false, 0, 0, 0, false) := by
  unfold broad_Sum.f
  rw [if_pos rfl, broad_Sum.j0, if_pos rfl]
theorem sum_nar_r (k : Nat) (n : Bool) (s h l : Int) (b : Bool) (kd n' s' h' l' b') (hk : kd ≠ 2) : broad_Sum.f (k + 1) kd n s h l b 2 n' s' h' l' b' = some (2, false, 0, 0, 0, false) := by
  unfold broad_Sum.f
  rw [if_neg hk, show ((2 : Int) == 2) = true from rfl, broad_Sum.j0, if_pos rfl]
end Go.Proofs.Ytnlbfomlfhigcaa.M
namespace Go.Proofs.Ytnlbfomlfhigcaa.M
open Go.RowKit Go.Proofs.YtnlbfomlfhigcaaW.PrintWords Go.Proofs.YtnlbfomlfhigcaaW.PrintLast Go.Proofs.YtnlbfomlfhigcaaW.PrintMore Go.Proofs.Ytnlbfomlfhigcaa.Q
theorem decode_no {n : Int} (h : ¬ (n = 8 ∨ n = 16 ∨ n = 32 ∨ n = 64)) (x : Int) (k : Nat) : codec_Decode.f k n x = some (0, false, 0, 0, some 2) := by
  unfold codec_Decode.f
  rw [kind_no h]
  rfl
theorem knd_cases (n y : Nat) : (knd n y = 0 ∧ y = 0) ∨ knd n y = 1 ∨ (knd n y = 2 ∧ y = 2 ^ (n - 1)) := by
  unfold knd
  split
  · left; exact ⟨rfl, by assumption⟩
  · split
    · right; right; exact ⟨rfl, by assumption⟩
    · right; left; rfl
theorem decode_zero {n : Nat} (hn : Wd n) {p : Nat} (hp : p < 2 ^ 64) (hk : knd n (p % 2 ^ n) = 0) (k : Nat) : codec_Decode.f k (n : Int) (p : Int) = some (0, false, 0, 0, none) := by
  unfold codec_Decode.f
  rw [kind_yes hn hp, hk]
  rfl
theorem decode_nar {n : Nat} (hn : Wd n) {p : Nat} (hp : p < 2 ^ 64) (hk : knd n (p % 2 ^ n) = 2) (k : Nat) : codec_Decode.f k (n : Int) (p : Int) = some (2, false, 0, 0, none) := by
  unfold codec_Decode.f
  rw [kind_yes hn hp, hk]
  rfl
theorem decode_real {n : Nat} (hn : Wd n) {p : Nat} (hp : p < 2 ^ 64) (hk : knd n (p % 2 ^ n) = 1) : ∃ s : Int, ∃ f : Nat, Dec n (mag n (p % 2 ^ n)) s f ∧
    ∀ k, codec_Decode.f (k + 8) (n : Int) (p : Int) = some (1, sgn n (p % 2 ^ n), s, (f : Int), none) := by
  have hb := hn.bd
  have hmb := mag_bd hn (Nat.mod_lt p (pow_pos n)) hk
  obtain ⟨r, m, ones, x, hr, hm, hx, hs⟩ := split_real hn hp hk
  have hpd := parse_dec hn ones hmb.1 hmb.2 hr m (min m 2) (m - min m 2) _ _ hm rfl rfl rfl rfl
  have hmod : ∀ j, j ≤ n - 1 → x % 2 ^ j = mag n (p % 2 ^ n) % 2 ^ j := by
    intro j hj
    rw [← hx, show n - 1 = j + (n - 1 - j) by omega, Nat.pow_add, Nat.mod_mul_right_mod]
  have hfr : x % 2 ^ (m - min m 2) = mag n (p % 2 ^ n) % 2 ^ (m - min m 2) := hmod _ (by omega)
  have he : x / 2 ^ (m - min m 2) % 2 ^ (min m 2) = mag n (p % 2 ^ n) / 2 ^ (m - min m 2) % 2 ^ (min m 2) := by
    have := hmod (m - min m 2 + min m 2) (by omega)
    rw [Nat.pow_add] at this
    rw [← Nat.mod_mul_right_div_self, ← Nat.mod_mul_right_div_self, this]
  rw [← hfr, ← he] at hpd
  obtain ⟨hd, h61, h3, hf⟩ := hpd
  refine ⟨_, _, hd, fun k => ?_⟩
  unfold codec_Decode.f
  rw [kind_yes hn hp, hk]
  simp only [Option.bind_some, Option.isNone_none, if_true]
  rw [if_pos (by decide), hs k]
  simp only [Option.bind_some]
  generalize x / 2 ^ (m - min m 2) % 2 ^ (min m 2) * 2 ^ (2 - min m 2) = E at *
  generalize x % 2 ^ (m - min m 2) = fr at *
  generalize m - min m 2 = fb at *
  have hw : wrap64 (63 - (fb : Int)) = ((63 - fb : Nat) : Int) := by unfold wrap64; omega
  have hlt : fr * 2 ^ (63 - fb) < 2 ^ 63 := by
    have : fr * 2 ^ (63 - fb) < 2 ^ fb * 2 ^ (63 - fb) := Nat.mul_lt_mul_of_pos_right hf (pow_pos _)
    rw [← Nat.pow_add, show fb + (63 - fb) = 63 by omega] at this
    exact this
  rw [hw, if_pos (by omega), shl_nat fr (63 - fb) (by omega), Nat.mod_eq_of_lt (a := fr * 2 ^ (63 - fb)) (b := 2 ^ 64) (by omega)]
  have hor := or_add (2 ^ 63) (fr * 2 ^ (63 - fb)) 63 (by decide) hlt (by omega) (by decide)
  have e63 : (((2 ^ 63 : Nat)) : Int) = 9223372036854775808 := by decide
  rw [e63] at hor
  rw [hor]
  have hreg : -64 ≤ reg r ones ∧ reg r ones ≤ 64 := by
    obtain ⟨g1, g2, _⟩ := hr
    unfold reg
    split <;> omega
  have hsc : wrap64 (wrap64 (4 * reg r ones) + (E : Int)) = 4 * reg r ones + (E : Int) := by
    rw [wrap64_id (n := 4 * reg r ones) (by omega) (by omega), wrap64_id (by omega) (by omega)]
  rw [hsc]
  rfl
end Go.Proofs.Ytnlbfomlfhigcaa.M
